/- seek.Path, walked. -/
import Derived.Test.YtchjjoepikcmfaaGreatPath1
import Derived.Deep.LoopGhost
namespace Go.Proofs.YtchjjoepikcmfaaGreat.Tower
open Go Go.RowKit Go.Proofs.YtchjjoepikcmfaaGreatW.PrintWords Go.Proofs.YtchjjoepikcmfaaGreatW.PrintLast Go.Proofs.YtchjjoepikcmfaaGreatW.PrintMore Go.Proofs.YtchjjoepikcmfaaGreat.Own
set_option linter.unusedVariables false
set_option linter.unusedSimpArgs false

def taskV (tb p : Nat) (me : Int) : Value := .agg #[.pointer (some ⟨tb, 0, none⟩), .pointer (some ⟨p, 0, none⟩), .int .i64 me]
def taskO (tb p : Nat) (me : Int) : Obj := .cells #[.pointer (some ⟨tb, 0, none⟩), .pointer (some ⟨p, 0, none⟩), .int .i64 me] 99 (0, 0)
theorem R_moves {α : Type} {d : Kd α} {e base : Nat} {ok ok1 : Nat → Prop} {v : Value} {xs : List α} {w w1 : World} (h : d.R e w base (fun k => ¬ ok k) v xs) (m : Moves ok ok1 w w1) : d.R e w1 base (fun k => ¬ ok1 k) v xs :=
  Kd.R_mono (Kd.R_step (Kd.R_bound h) (fun k hk hlt => m.block k hlt hk.1)) (fun k hk h1 => (m.fresh k h1).elim hk.1 (fun h2 => by have := hk.2.2.1; omega))
/-- The arena's node is looked at, outside of a touch. -/
theorem look_task {p tb : Nat} {work : Value} {ok : Nat → Prop} {s : TS Ws} {w : World} (h : IsRun (shW p) tb work ok s w) (r : Int) :
    ∃ pA, w.cell? ⟨p, 0, none⟩ = some (.pointer (some ⟨pA, 0, none⟩)) ∧ w.cell? ⟨p, 5, none⟩ = some (.int .i64 s.sh.entry) ∧ (s.sh.ar.look r).1.Small ∧ Calls Tryz.prog 87 #[.pointer (some ⟨pA, 0, none⟩), .int .i64 r] w fun e w1 => ∃ v ok1, e = .returned v ∧ NdNew w.heap.size (s.sh.ar.look r).1 v w1 ∧ IsRun (shW p) tb work ok1 { s with sh := { s.sh with ar := (s.sh.ar.look r).2 } } w1 ∧ Moves ok ok1 w w1 ∧ ∀ k, ok1 k → ok k := by
  obtain ⟨okS, hk, ⟨⟨okA, okR, okE, pA, pR, pE, hw⟩, hg⟩, hd⟩ := h.direct
  refine ⟨pA, (blk_cell hw.box 0).trans rfl, (blk_cell hw.box 5).trans rfl, hg.look_small r, (look_calls r w hw.ar hg.fits).mono ?_⟩
  rintro e w1 ⟨⟨v, rfl, hv⟩, ha, hm⟩
  obtain ⟨h1, h2⟩ := hw.ar_moves ha hm
  obtain ⟨ok1, h3, h4, h5⟩ := hd _ _ w1 ⟨⟨_, _, _, _, _, _, h1⟩, hg.look r⟩ h2
  exact ⟨v, ok1, rfl, hv, h3, h4, fun k hk1 => (h5 k hk1).elim id (fun h6 => hk k ((hw.ok k).2 h6))⟩
def VSteps (l : List Stp) (ok : Nat → Prop) (v : Value) (w : World) : Prop := kStp.R 103 w 0 (fun k => ¬ ok k) v l

theorem info_step : (Tryz.prog.info? 103).map (fun i => (i.zero, i.size, i.bytes)) = some (some (.agg #[.int .i64 0, .bool false, .bool false, .slice none 0 0, .slice none 0 0, .slice none 0 0, .int .i64 0]), 7, 96) := by kernel_rfl
structure PathAt (p tb : Nat) (work : Value) (me : Int) (bt : Nat) (key : Int) (ok : Nat → Prop) (w : World) (res : Out (List Stp) × TS Ws) (f : Nat) (v5 v6 : Value) (wr : World) : Prop where
  out : ∃ ok1 s1 acc r, v6 = .int .i64 r ∧ kStp.R 103 wr w.heap.size (fun k => ¬ ok1 k ∧ k ≠ bt) v5 acc ∧ IsRun (shW p) tb work ok1 s1 wr ∧ Moves ok ok1 w wr ∧ wr.heap[bt]? = some (taskO tb p me) ∧ ¬ ok1 bt ∧ acc.length + f < 900000 ∧ pathT key f r acc s1 = some res

set_option maxHeartbeats 4000000 in
set_option maxRecDepth 100000 in
theorem path_calls (p tb : Nat) (work : Value) (me key : Int) (ok : Nat → Prop) (s : TS Ws) (w : World) (h : IsRun (shW p) tb work ok s w) (f : Nat) (hf : f < 900000) (res : Out (List Stp) × TS Ws) (hr : pathT key f s.sh.entry [] s = some res) :
    Calls Tryz.prog 58 #[taskV tb p me, .int .i64 key] w (TPost (shW p) tb work VSteps ok w res) := by
  have h1 := h.below (shW_shared p) (below_alloc (Below.refl _ _) (taskO tb p me))
  have HN : ¬ ok w.heap.size := fun hk => by have := h.lt (shW_shared p) _ hk; omega
  obtain ⟨pA, c0, c5, _, _⟩ := look_task h1 0
  have HP : Aside0 (PathAt p tb work me w.heap.size key ok w res f (.slice none 0 0) (.int .i64 s.sh.entry) (w.alloc (taskO tb p me))) := ⟨⟨ok, s, [], _, rfl, Kd.R_nil _ _ _ _ _, h1, (Moves.refl ok w).alloc _, blk_new w _, HN, by simpa using hf, hr⟩⟩
  have hbt := (blk_cell (blk_new w (taskO tb p me)) 1).trans (rfl : _ = some (Value.pointer (some ⟨p, 0, none⟩)))
  unfold taskO at HP hbt c0 c5
  unfold taskV
  clear h h1 hr HN
  go_enter Tryz.func58, Tryz.ntmps58
  go_upto_region 2 with fail
  generalize w.alloc (.cells #[.pointer (some ⟨tb, 0, none⟩), .pointer (some ⟨p, 0, none⟩), .int .i64 me] 99) = w1 at HP hbt c0 c5 ⊢
  generalize hbb : w.heap.size = bt at HP hbt ⊢
  go_wp2_with fail
  clear c0 c5 hbt
  go_loopg [5, 6] f (fun g v5 v6 wr => Aside0 (PathAt p tb work me bt key ok w res g v5 v6 wr))
  case atStart => exact HP
  case round =>
    cases gk with
    | zero => obtain ⟨ok1, s1, acc, r, _, _, _, _, _, _, _, hr⟩ := hrel.out.out; cases hr
    | succ g =>
    obtain ⟨ok1, s1, acc, r, rfl, hR, hI, hM, hB, hN, hL, hr⟩ := hrel.out.out
    obtain ⟨pA, c0, _, hsm, hlook⟩ := look_task hI r
    have HL := Aside0.mk hlook
    have R0 := Aside0.mk hR
    have I0 := Aside0.mk hI
    have M0 := Aside0.mk hM
    have B0 := Aside0.mk hB
    have N0 := Aside0.mk hN
    have L0 := Aside0.mk hL
    have HR := Aside0.mk hr
    have cb := (blk_cell hB 1).trans (rfl : _ = some (Value.pointer (some ⟨p, 0, none⟩)))
    clear hR hI hM hB hN hL hr hrel hlook
    go_upto_region 4 with (go_at_call 87; refine HL.out.mono ?_; rintro e w2 ⟨v2, ok2, rfl, ⟨pv, kv, yv, rfl, hp, hk, hy⟩, hI2, hM2, hO2⟩; have O2 := Aside0.mk hO2; obtain ⟨Ap, cp, rfl⟩ := Kd.R_slice hp; obtain ⟨Ak, ck, rfl⟩ := Kd.R_slice hk; obtain ⟨Ay, cy, rfl⟩ := Kd.R_slice hy; have P2 := Aside0.mk hp; have K2 := Aside0.mk hk; have Y2 := Aside0.mk hy; have I2 := Aside0.mk hI2; have M2 := Aside0.mk hM2; clear hp hk hy hI2 hM2 hO2 HL)
    have HS := Aside0.mk hsm
    clear hsm c0 cb
    have hr1 := HR.out
    unfold pathT prBind lookT at hr1
    simp only at hr1
    generalize (s1.sh.ar.look r).1 = n at P2 K2 Y2 HS hr1 ⊢
    generalize ({ s1 with sh := { s1.sh with ar := (s1.sh.ar.look r).2 } } : TS Ws) = s2 at I2 hr1
    have HR1 := Aside0.mk hr1
    obtain ⟨A5, c5, rfl⟩ := Kd.R_slice R0.out
    have hlt1 : ∀ k, ok2 k → k < w2.heap.size := I2.out.lt (shW_shared p)
    have hb2 : w2.heap[bt]? = some (taskO tb p me) := (M2.out.block bt (blk_lt B0.out) N0.out).trans B0.out
    have N2 : Aside0 (¬ ok2 bt) := ⟨fun h => (M2.out.fresh bt h).elim N0.out (fun h2 => by have := blk_lt B0.out; omega)⟩
    have R2 : kStp.R 103 w2 w.heap.size (fun k => ¬ ok2 k ∧ k ≠ bt ∧ k ≠ w2.heap.size ∧ k < wr.heap.size) (.slice A5 acc.length c5) acc := Kd.R_mono (Kd.R_step (Kd.R_bound R0.out) (fun k hk hlt => M2.out.block k hlt hk.1.1)) (fun k hk => ⟨fun h => (M2.out.fresh k h).elim hk.1.1 (fun h2 => by have := hk.2.2.1; omega), hk.1.2, by have := hk.2.2.1; have := M2.out.size; omega, hk.2.2.1⟩)
    have hnd : ∀ k, wr.heap.size ≤ k ∧ k < w2.heap.size → (¬ ok2 k ∧ k ≠ bt ∧ k ≠ w2.heap.size) ∧ some k ≠ (Value.slice A5 acc.length c5).ownBlock := fun k hk => ⟨⟨fun h => by have := I0.out.lt (shW_shared p) k (O2.out k h); omega, fun e => by have := blk_lt B0.out; omega, by omega⟩, fun e => by have := Kd.R_lt R0.out k e.symm; omega⟩
    have R3 := Aside0.mk (Kd.R_alloc (Kd.R_mono R2 (fun k hk => ⟨hk.1, hk.2.1, hk.2.2.1⟩) : kStp.R 103 w2 w.heap.size (fun k => ¬ ok2 k ∧ k ≠ bt ∧ k ≠ w2.heap.size) (.slice A5 acc.length c5) acc) (.cells #[.int .i64 r, .bool n.inner, .bool n.tagged, .slice Ap n.pairs.length cp, .slice Ak n.keys.length ck, .slice Ay n.ways.length cy, .int .i64 0] 103))
    have P3 := Aside0.mk (Kd.R_alloc (Kd.R_lower (Kd.R_mono (Kd.R_bound P2.out) (fun k hk => hnd k ⟨hk.1, hk.2.2.1⟩)) M0.out.size) (.cells #[.int .i64 r, .bool n.inner, .bool n.tagged, .slice Ap n.pairs.length cp, .slice Ak n.keys.length ck, .slice Ay n.ways.length cy, .int .i64 0] 103))
    have K3 := Aside0.mk (Kd.R_alloc (Kd.R_lower (Kd.R_mono (Kd.R_bound K2.out) (fun k hk => hnd k ⟨hk.1, hk.2.2.1⟩)) M0.out.size) (.cells #[.int .i64 r, .bool n.inner, .bool n.tagged, .slice Ap n.pairs.length cp, .slice Ak n.keys.length ck, .slice Ay n.ways.length cy, .int .i64 0] 103))
    have Y3 := Aside0.mk (Kd.R_alloc (Kd.R_lower (Kd.R_mono (Kd.R_bound Y2.out) (fun k hk => hnd k ⟨hk.1, hk.2.2.1⟩)) M0.out.size) (.cells #[.int .i64 r, .bool n.inner, .bool n.tagged, .slice Ap n.pairs.length cp, .slice Ak n.keys.length ck, .slice Ay n.ways.length cy, .int .i64 0] 103))
    have I3 := Aside0.mk (I2.out.below (shW_shared p) (below_alloc (Below.refl _ _) (.cells #[.int .i64 r, .bool n.inner, .bool n.tagged, .slice Ap n.pairs.length cp, .slice Ak n.keys.length ck, .slice Ay n.ways.length cy, .int .i64 0] 103)))
    have M3 := Aside0.mk ((M0.out.trans M2.out).alloc (.cells #[.int .i64 r, .bool n.inner, .bool n.tagged, .slice Ap n.pairs.length cp, .slice Ak n.keys.length ck, .slice Ay n.ways.length cy, .int .i64 0] 103))
    have B3 := Aside0.mk (blk_alloc hb2 (.cells #[.int .i64 r, .bool n.inner, .bool n.tagged, .slice Ap n.pairs.length cp, .slice Ak n.keys.length ck, .slice Ay n.ways.length cy, .int .i64 0] 103))
    have S3 := Aside0.mk (blk_new w2 (.cells #[.int .i64 r, .bool n.inner, .bool n.tagged, .slice Ap n.pairs.length cp, .slice Ak n.keys.length ck, .slice Ay n.ways.length cy, .int .i64 0] 103))
    have hs7 : Aside0 (¬ ok2 w2.heap.size) := ⟨fun h => by have := I2.out.lt (shW_shared p) _ h; omega⟩
    have hne : Aside0 (bt ≠ w2.heap.size) := ⟨by have := blk_lt hb2; omega⟩
    have hsw : Aside0 (w.heap.size ≤ w2.heap.size) := ⟨(M0.out.trans M2.out).size⟩
    clear R2 hnd hlt1 hb2 R0 I0 M0 B0 N0 P2 K2 Y2 I2 M2 O2 hr1 HR
    generalize w2.alloc (.cells #[.int .i64 r, .bool n.inner, .bool n.tagged, .slice Ap n.pairs.length cp, .slice Ak n.keys.length ck, .slice Ay n.ways.length cy, .int .i64 0] 103) = w3 at R3 P3 K3 Y3 I3 M3 B3 S3 ⊢
    generalize w2.heap.size = b7 at R3 P3 K3 Y3 S3 hs7 hne hsw ⊢
    have k1 := (blk_cell S3.out 1).trans (rfl : _ = some (Value.bool n.inner))
    have HH := HR1.out
    clear HR1
    cases hin : n.inner with
    | false =>
      rw [hin] at k1
      rw [if_pos hin] at HH
      injection HH with HH
      have HRES := Aside0.mk HH
      have HIN := Aside0.mk hin
      clear HH
      have k0 := (blk_cell S3.out 0).trans (rfl : _ = some (Value.int .i64 r))
      have k2 := (blk_cell S3.out 2).trans (rfl : _ = some (Value.bool n.tagged))
      have k3 := (blk_cell S3.out 3).trans (rfl : _ = some (Value.slice Ap n.pairs.length cp))
      have k4 := (blk_cell S3.out 4).trans (rfl : _ = some (Value.slice Ak n.keys.length ck))
      have k5 := (blk_cell S3.out 5).trans (rfl : _ = some (Value.slice Ay n.ways.length cy))
      have k6 := (blk_cell S3.out 6).trans (rfl : _ = some (Value.int .i64 0))
      have E3 : Aside0 (kStp.M w3 w.heap.size (fun k => (¬ ok2 k ∧ k ≠ bt ∧ k ≠ b7) ∧ some k ≠ (Value.slice A5 acc.length c5).ownBlock) ⟨r, n, 0⟩ [.int .i64 r, .bool false, .bool n.tagged, .slice Ap n.pairs.length cp, .slice Ak n.keys.length ck, .slice Ay n.ways.length cy, .int .i64 0]) := ⟨by rw [← HIN.out]; exact kStp_M (s := ⟨r, n, 0⟩) (kNd_M P3.out K3.out Y3.out)⟩
      clear hin
      go_upto_region 7 with ((with_reducible refine gate_builtin (b := .append) (xs := #[.tmp 32, .tmp 34]) rfl ?_); at_builtin; refine Kd.R_append kStp (w0 := w3) w.heap.size rfl (.tmp 32) (.tmp 34) 100 103 _ 96 rfl Tryz.underlying100 info_step rfl (by decide) (by decide) (.slice A5 acc.length c5) acc ⟨r, n, 0⟩ _ (fun k => (¬ ok2 k ∧ k ≠ bt ∧ k ≠ b7)) (fun k => (¬ ok2 k ∧ k ≠ bt ∧ k ≠ b7) ∧ some k ≠ (Value.slice A5 acc.length c5).ownBlock) rfl rfl E3.out (fun _ hk => hk) (fun k hk => ⟨fun h => by have := I3.out.lt (shW_shared p) k h; omega, fun h => by have := blk_lt B3.out; omega, fun h => by have := blk_lt S3.out; omega⟩) R3.out (Below.refl _ _) M3.out.size (by have := L0.out; omega) ?_; intro v5 w5 ho hb5 hg hat; obtain ⟨A6, c6, rfl⟩ := Kd.R_slice ho; have m0_ := Aside0.mk ho; have m1_ := Aside0.mk hg; clear ho hb5 hg hat)
      have hob : ∀ k, ok2 k → some k ≠ (Value.slice A5 acc.length c5).ownBlock := fun k hk e => (R3.out.1 k e.symm).1 hk
      have I5 := Aside0.mk (I3.out.step (shW_shared p) m1_.out.size (fun k hk hlt => m1_.out.block k hlt (hob k hk)))
      have M5 := Aside0.mk (M3.out.grown m1_.out (fun k hk => .inr (Kd.R_base R3.out k hk)))
      have S5 := Aside0.mk (blk_grown S3.out m1_.out (fun e => (R3.out.1 b7 e.symm).2.2 rfl))
      clear k0 k1 k2 k3 k4 k5 k6 hob
      have k1 := (blk_cell S5.out 1).trans (rfl : _ = some (Value.bool n.inner))
      rw [HIN.out] at k1
      go_wp2_with fail
      go_ret
      rw [← HRES.out]
      have hw0 : stpWay n key = 0 := by simp [stpWay, HIN.out]
      rw [hw0]
      have hlen : (acc ++ [(⟨r, n, 0⟩ : Stp)]).length = acc.length + 1 := by simp
      have h0 := m0_.out
      rw [hlen] at h0
      exact ⟨⟨ok2, M5.out, I5.out, _, rfl, Kd.R_lower (Kd.R_mono h0 (fun k hk => hk.1)) (Nat.zero_le _)⟩⟩
    | true =>
      rw [hin] at k1
      rw [if_neg (by rw [hin]; decide)] at HH
      have HIN := Aside0.mk hin
      have hwy : stpWay n key = wayOf n.keys n.ways.length key := by simp [stpWay, hin]
      rw [hwy] at HH
      have HRES := Aside0.mk HH
      clear HH hwy hin
      have k4 := (blk_cell S3.out 4).trans (rfl : _ = some (Value.slice Ak n.keys.length ck))
      have k5 := (blk_cell S3.out 5).trans (rfl : _ = some (Value.slice Ay n.ways.length cy))
      have hkc := Aside0.mk (Kd.R_reads' K3.out).2.2
      go_upto_region 6 with (go_at_call 88; refine (inner_way Ak Ay ck n.ways.length cy n.keys key _ hkc.out HS.out.keys HS.out.ways).mono ?_; rintro e w4 ⟨rfl, hb4⟩; have k6 := (blk_cell (blk_below S3.out hb4) 6).trans (rfl : _ = some (Value.int .i64 0)); have z6 := blk_frozen (blk_below S3.out hb4) 6; have X4 := Aside0.mk hb4; clear hb4)
      generalize hwyv : wayOf n.keys n.ways.length key = wy at HRES ⊢
      have hob7 : ∀ k, ok2 k → k ≠ b7 := fun k hk e => hs7.out (e ▸ hk)
      have R5 := Aside0.mk (Kd.R_far (Kd.R_below R3.out X4.out) (p := ⟨b7, 6, none⟩) (fun k hk => hk.2.2) (.int .i64 wy))
      have P5 := Aside0.mk (Kd.R_far (Kd.R_below P3.out X4.out) (p := ⟨b7, 6, none⟩) (fun k hk => hk.1.2.2) (.int .i64 wy))
      have K5 := Aside0.mk (Kd.R_far (Kd.R_below K3.out X4.out) (p := ⟨b7, 6, none⟩) (fun k hk => hk.1.2.2) (.int .i64 wy))
      have Y5 := Aside0.mk (Kd.R_far (Kd.R_below Y3.out X4.out) (p := ⟨b7, 6, none⟩) (fun k hk => hk.1.2.2) (.int .i64 wy))
      have I5 := Aside0.mk ((I3.out.below (shW_shared p) X4.out).far (shW_shared p) (p := ⟨b7, 6, none⟩) hs7.out (.int .i64 wy))
      have M5 := Aside0.mk ((M3.out.below X4.out).set (p := ⟨b7, 6, none⟩) (.inr hsw.out) (.int .i64 wy))
      have B5 := Aside0.mk (blk_far (blk_below B3.out X4.out) (p := ⟨b7, 6, none⟩) hne.out (.int .i64 wy))
      have S5 := Aside0.mk (blk_set (blk_below S3.out X4.out) 6 (.int .i64 wy))
      clear R3 P3 K3 Y3 I3 M3 B3 S3 k1 k4 k5 k6 z6 hkc hob7
      generalize w4.setCell ⟨b7, 6, none⟩ (.int .i64 wy) = w5 at R5 P5 K5 Y5 I5 M5 B5 S5 ⊢
      have k0 := (blk_cell S5.out 0).trans (rfl : _ = some (Value.int .i64 r))
      have k1 := (blk_cell S5.out 1).trans (rfl : _ = some (Value.bool n.inner))
      rw [HIN.out] at k1
      have k2 := (blk_cell S5.out 2).trans (rfl : _ = some (Value.bool n.tagged))
      have k3 := (blk_cell S5.out 3).trans (rfl : _ = some (Value.slice Ap n.pairs.length cp))
      have k4 := (blk_cell S5.out 4).trans (rfl : _ = some (Value.slice Ak n.keys.length ck))
      have k5 := (blk_cell S5.out 5).trans (rfl : _ = some (Value.slice Ay n.ways.length cy))
      have k6 := (blk_cell S5.out 6).trans (rfl : _ = some (Value.int .i64 wy))
      have E5 : Aside0 (kStp.M w5 w.heap.size (fun k => (¬ ok2 k ∧ k ≠ bt ∧ k ≠ b7) ∧ some k ≠ (Value.slice A5 acc.length c5).ownBlock) ⟨r, n, wy⟩ [.int .i64 r, .bool true, .bool n.tagged, .slice Ap n.pairs.length cp, .slice Ak n.keys.length ck, .slice Ay n.ways.length cy, .int .i64 wy]) := ⟨by rw [← HIN.out]; exact kStp_M (s := ⟨r, n, wy⟩) (kNd_M P5.out K5.out Y5.out)⟩
      go_upto_region 7 with ((with_reducible refine gate_builtin (b := .append) (xs := #[.tmp 32, .tmp 34]) rfl ?_); at_builtin; refine Kd.R_append kStp (w0 := w5) w.heap.size rfl (.tmp 32) (.tmp 34) 100 103 _ 96 rfl Tryz.underlying100 info_step rfl (by decide) (by decide) (.slice A5 acc.length c5) acc ⟨r, n, wy⟩ _ (fun k => (¬ ok2 k ∧ k ≠ bt ∧ k ≠ b7)) (fun k => (¬ ok2 k ∧ k ≠ bt ∧ k ≠ b7) ∧ some k ≠ (Value.slice A5 acc.length c5).ownBlock) rfl rfl E5.out (fun _ hk => hk) (fun k hk => ⟨fun h => by have := I5.out.lt (shW_shared p) k h; omega, fun h => by have := blk_lt B5.out; omega, fun h => by have := blk_lt S5.out; omega⟩) R5.out (Below.refl _ _) M5.out.size (by have := L0.out; omega) ?_; intro v5 w6 ho hb5 hg hat; obtain ⟨A6, c6, rfl⟩ := Kd.R_slice ho; have m0_ := Aside0.mk ho; have m1_ := Aside0.mk hg; clear ho hb5 hg hat)
      have hob : ∀ k, ok2 k → some k ≠ (Value.slice A5 acc.length c5).ownBlock := fun k hk e => (R5.out.1 k e.symm).1 hk
      have O6 := Aside0.mk m0_.out
      have I6 := Aside0.mk (I5.out.step (shW_shared p) m1_.out.size (fun k hk hlt => m1_.out.block k hlt (hob k hk)))
      have M6 := Aside0.mk (M5.out.grown m1_.out (fun k hk => .inr (Kd.R_base R5.out k hk)))
      have S6 := Aside0.mk (blk_grown S5.out m1_.out (fun e => (R5.out.1 b7 e.symm).2.2 rfl))
      have B6 := Aside0.mk (blk_grown B5.out m1_.out (fun e => (R5.out.1 bt e.symm).2.1 rfl))
      clear k0 k1 k2 k3 k4 k5 k6 hob R5 P5 K5 Y5 I5 M5 B5 S5 E5 m0_ m1_
      have k1 := (blk_cell S6.out 1).trans (rfl : _ = some (Value.bool n.inner))
      rw [HIN.out] at k1
      have k6 := (blk_cell S6.out 6).trans (rfl : _ = some (Value.int .i64 wy))
      go_upto_region 10 with fail
      have O8 := Aside0.mk (Kd.R_alloc (Kd.R_bound O6.out) (.cells #[.int .i64 wy] 3))
      have I8 := Aside0.mk (I6.out.below (shW_shared p) (below_alloc (Below.refl _ _) (.cells #[.int .i64 wy] 3)))
      have M8 := Aside0.mk (M6.out.alloc (.cells #[.int .i64 wy] 3))
      have S8 := Aside0.mk (blk_alloc S6.out (.cells #[.int .i64 wy] 3))
      have B8 := Aside0.mk (blk_alloc B6.out (.cells #[.int .i64 wy] 3))
      have W8 := Aside0.mk (blk_new w6 (.cells #[.int .i64 wy] 3))
      have N8 : Aside0 (¬ ok2 w6.heap.size) := ⟨fun h => by have := I6.out.lt (shW_shared p) _ h; omega⟩
      clear O6 I6 M6 S6 B6 k1 k6
      generalize w6.alloc (.cells #[.int .i64 wy] 3) = w8 at O8 I8 M8 S8 B8 W8 ⊢
      generalize w6.heap.size = b8 at O8 W8 N8 ⊢
      have c0 := (blk_cell B8.out 0).trans (rfl : _ = some (Value.pointer (some ⟨tb, 0, none⟩)))
      have hmf : ∀ (fn : Fn) (first cap : Array Value) (w : World), (Instr.makeFunc fn first cap).run Tryz.prog w = .ok (.func fn first cap) w := fun _ _ _ _ => rfl
      go_wp2_with fail
      have HH := HRES.out
      cases hd : wayT r wy s2 with
      | none => rw [hd] at HH; cases HH
      | some dres =>
        rw [hd] at HH
        have HRES2 := Aside0.mk HH
        have HD := Aside0.mk hd
        clear HH HRES hd
        refine (do_calls (shW_shared p) (fun x => ((x.ar.way r wy).1, { x with ar := (x.ar.way r wy).2 })) tb work ok2 s2 w8 90 #[.pointer (some ⟨bt, 0, none⟩), .pointer (some ⟨b7, 0, none⟩), .pointer (some ⟨b8, 0, none⟩)] I8.out (enters Tryz.func90 (by kernel_rfl) rfl _) (fun w9 okS hm hk hsh => ?hT) dres HD.out).mono ?_
        case hT =>
          have h1 := (blk_cell ((hm.block bt (blk_lt B8.out) N2.out).trans B8.out) 1).trans (rfl : _ = some (Value.pointer (some ⟨p, 0, none⟩)))
          have h2 := (blk_cell ((hm.block b7 (blk_lt S8.out) hs7.out).trans S8.out) 0).trans (rfl : _ = some (Value.int .i64 r))
          have h3 := (blk_cell ((hm.block b8 (blk_lt W8.out) N8.out).trans W8.out) 0).trans (rfl : _ = some (Value.int .i64 wy))
          exact path1_calls p s2.sh r wy w9 okS bt b7 b8 hsh h1 h2 h3
        rintro e w9 ⟨ok3, hm3, hi3, hres⟩
        have M9 := Aside0.mk (M8.out.trans hm3)
        have I9 := Aside0.mk hi3
        have O9 := Aside0.mk (Kd.R_mono (Kd.R_step (Kd.R_bound O8.out) (fun k hk hlt => hm3.block k hlt hk.1.1.1)) (fun k hk => (⟨fun h => (hm3.fresh k h).elim hk.1.1.1 (fun h2 => by have := hk.2.2.1; omega), hk.1.1.2.1⟩ : ¬ ok3 k ∧ k ≠ bt)))
        have B9 := Aside0.mk ((hm3.block bt (blk_lt B8.out) N2.out).trans B8.out)
        have N9 : Aside0 (¬ ok3 bt) := ⟨fun h => (hm3.fresh bt h).elim N2.out (fun h2 => by have := blk_lt B8.out; omega)⟩
        clear hm3 hi3 O8 I8 M8 S8 B8 W8 N8 c0
        obtain ⟨o, t9⟩ := dres
        cases o with
        | wait =>
          have hh := HRES2.out
          injection hh with hh
          subst hh
          obtain rfl : e = .panicked waitP := hres
          exact ⟨rfl, ⟨⟨ok3, M9.out, I9.out, rfl⟩⟩⟩
        | ret r1 =>
          obtain ⟨v, rfl, rfl⟩ : ∃ v, e = .returned v ∧ v = .int .i64 r1 := hres
          have hh := HRES2.out
          simp only at hh
          have HH := Aside0.mk hh
          clear hh HRES2
          dsimp only
          have hlen : (acc ++ [(⟨r, n, wy⟩ : Stp)]).length = acc.length + 1 := by simp
          rw [hlen] at O9
          by_cases hr0 : r1 = 0
          · subst hr0
            go_wp2_with fail
            go_ret
            have hh := HH.out
            simp only [if_true] at hh
            injection hh with hh
            rw [← hh]
            exact ⟨⟨ok3, M9.out, I9.out, _, rfl, Kd.R_lower (Kd.R_mono O9.out (fun k hk => hk.1)) (Nat.zero_le _)⟩⟩
          · have hb : (r1 == 0) = false := by simpa using hr0
            have HR0 := Aside0.mk hr0
            clear hr0
            go_wp2_with fail
            go_roundg g
            case rel =>
              have hh := HH.out
              rw [if_neg HR0.out] at hh
              exact ⟨⟨ok3, t9, acc ++ [⟨r, n, wy⟩], r1, rfl, O9.out, I9.out, M9.out, B9.out, N9.out, by have := L0.out; rw [hlen]; omega, hh⟩⟩
            case measure => omega
end Go.Proofs.YtchjjoepikcmfaaGreat.Tower
