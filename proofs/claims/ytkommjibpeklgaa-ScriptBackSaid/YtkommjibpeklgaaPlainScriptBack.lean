/- The entries that may be, each of one that needn't: a walk of the law's function 'plain': whatever entries lie in a row, the call makes of each the one that may be. Conditions: kinds not below nought; fewer than a slice may hold. -/
import Derived.Test.YtkommjibpeklgaaPScriptBackx7
import Derived.Test.YtkommjibpeklgaaPScriptBackx0
namespace Go.Proofs.Ytkommjibpeklgaa.PScriptBack
open Go.RowKit Go.Proofs.YtkommjibpeklgaaW.PrintWords Go.Proofs.YtkommjibpeklgaaW.PrintLast Go.Proofs.YtkommjibpeklgaaW.PrintMore
attribute [local go_sem] max2_int min2_int max_two min_two max_three min_three max_four min_four
set_option linter.unusedVariables false
set_option linter.unusedSimpArgs false

/-- How many numbers a kind asks. -/
def manyOf (K : Int) : Int := if 12 ≤ K then -1 else if K = 1 ∨ K = 2 ∨ K = 10 ∨ K = 11 then 2 else if K = 6 ∨ K = 7 then 0 else 1
def plw (e4 d64 K12 a b c : Int) : S27 :=
  ⟨e4, d64, if e4 = 0 then (if manyOf K12 = 0 then ⟨K12, 0, 0, 0⟩ else if manyOf K12 = 1 then ⟨K12, a, 0, 0⟩ else if K12 = 1 ∨ K12 = 2 then ⟨K12, a, 0, c⟩ else ⟨K12, a, b, 0⟩) else ⟨0, 0, 0, 0⟩⟩
/-- One that may be. -/
def pl (s : S27) : S27 := plw (Int.tmod s.f0 4) (Int.tmod s.f1 64) (Int.tmod s.f2.f0 12) s.f2.f1 s.f2.f2 s.f2.f3

theorem many_of (K : Int) (h : 0 ≤ K) : boscagelaw18_Many.f 2 K = some (manyOf K) := by
  have hK : K = 0 ∨ K = 1 ∨ K = 2 ∨ K = 3 ∨ K = 4 ∨ K = 5 ∨ K = 6 ∨ K = 7 ∨ K = 8 ∨ K = 9 ∨ K = 10 ∨ K = 11 ∨ (12 ≤ K ∧ K ≠ 0 ∧ K ≠ 1 ∧ K ≠ 2 ∧ K ≠ 3 ∧ K ≠ 4 ∧ K ≠ 5 ∧ K ≠ 6 ∧ K ≠ 7 ∧ K ≠ 8 ∧ K ≠ 9 ∧ K ≠ 10 ∧ K ≠ 11) := by omega
  rcases hK with rfl | rfl | rfl | rfl | rfl | rfl | rfl | rfl | rfl | rfl | rfl | rfl | ⟨h0, h1⟩
  case inr.inr.inr.inr.inr.inr.inr.inr.inr.inr.inr.inr => simp [boscagelaw18_Many.f, boscagelaw18_Many.j0, boscagelaw18_Many.j1, manyOf, h0, h1]
  all_goals simp [boscagelaw18_Many.f, boscagelaw18_Many.j0, boscagelaw18_Many.j1, manyOf]

theorem wup {i : Nat} (h : i < 3518437208883) : wrap64 ((i : Int) + 1) = ((i + 1 : Nat) : Int) := by
  unfold wrap64
  omega

theorem take_snoc_pl (l : List S27) (i : Nat) (h : i < l.length) : (l.take (i + 1)).map pl = (l.take i).map pl ++ [pl (rd_T27 l i)] := by
  rw [List.take_succ_eq_append_getElem h, List.map_append]
  simp [rd_T27, h]

set_option maxHeartbeats 4000000 in
set_option maxRecDepth 100000 in
theorem plain_calls (A0 : Option Addr) (c0 : Nat) (l0 : List S27) (w : World) (hr0 : Kd.C k27 w A0 l0.length l0) (hc0 : l0.length ≤ c0) (hK : ∀ s ∈ l0, 0 ≤ s.f2.f0) (hl : l0.length < 3518437208883) :
    Calls Try.prog 12 #[.slice A0 l0.length c0] w fun e w' => ∃ v0_ : Value, e = .returned (v0_) ∧ Kd.R k27 27 w' w.heap.size (fun _ => True) v0_ (l0.map pl) ∧ Below w.heap.size w w' := by
  have hu27 := Try.underlying27
  have hu25 := Try.underlying25
  have HR0 := Aside0.mk hr0
  have HC0 := Aside0.mk hc0
  have HKs := Aside0.mk hK
  have HL := Aside0.mk hl
  clear hr0 hc0 hK hl
  have HB := Aside0.mk (Below.refl w.heap.size w)
  go_enter Try.func12, Try.ntmps12
  go_wp2
  go_loopg [3, 8] l0.length (fun kq v3 v8 w' => ∃ i : Nat, i + kq = l0.length ∧ v8 = .int .i64 (i : Int) ∧ Aside0 (Kd.R k27 27 w' w.heap.size (fun _ => True) v3 ((l0.take i).map pl)) ∧ Aside0 (Below w.heap.size w w'))
  case atStart => exact ⟨0, by omega, rfl, ⟨Kd.R_nil _ _ _ _ _⟩, HB⟩
  case round =>
    clear HB
    obtain ⟨i, hik, rfl, HO, HB⟩ := hrel
    have HK1 := Aside0.mk hik
    clear hik
    cases gk with
    | zero =>
      have hlt : decide ((i : Int) < (l0.length : Int)) = false := decide_eq_false (by have := HK1.out; omega)
      have hlt' : decide (i < l0.length) = false := decide_eq_false (by have := HK1.out; omega)
      go_wp2
      go_ret
      exact ⟨_, rfl, by have h := HO.out; rw [List.take_of_length_le (by have := HK1.out; omega)] at h; (with_reducible repeat (first | apply Kd.R_alloc | apply Kd.R_drewN | apply Kd.R_drew)); exact h, by repeat (first | (with_reducible first | exact HB.out | apply below_alloc | apply pw_below_drewN | apply below_drew1) | exact HB.out)⟩
    | succ k1 =>
      have Hi := Aside0.mk (show i < l0.length by have := HK1.out; omega)
      have LM := Aside0.mk (show ((l0.take i).map pl).length < 3518437208883 ∧ i < 3518437208883 by have h1 := HL.out; have h2 := Hi.out; rw [List.length_map, List.length_take]; omega)
      have hlt : decide ((i : Int) < (l0.length : Int)) = true := decide_eq_true (by have := Hi.out; omega)
      have hlt' : decide (i < l0.length) = true := decide_eq_true Hi.out
      have p178 : 0 ≤ (i : Int) := by omega
      have q178 : (i : Int) < (l0.length : Int) := by have := Hi.out; omega
      obtain ⟨ad178, e178, hx178_0, hx178_1, hx178_2, hx178_3, hx178_4, hx178_5⟩ := at_T27 HR0.out (i : Int) p178 q178
      cases e178
      simp only [Int.toNat_natCast] at hx178_0 hx178_1 hx178_2 hx178_3 hx178_4 hx178_5
      obtain ⟨s, hs⟩ : ∃ s, s = rd_T27 l0 (i : Int) := ⟨_, rfl⟩
      rw [← hs] at hx178_0 hx178_1 hx178_2 hx178_3 hx178_4 hx178_5
      have Hs := Aside0.mk hs.symm
      have HsK := Aside0.mk (show 0 ≤ s.f2.f0 from HKs.out _ (by rw [hs]; have : rd_T27 l0 (i : Int) = l0[i]'Hi.out := by simp [rd_T27, Hi.out]
                                                                 rw [this]; exact List.getElem_mem _))
      clear hs
      replace hx178_0 := (HB.out.cell (World.block_lt_of_cell? w _ hx178_0)).trans hx178_0
      replace hx178_1 := (HB.out.cell (World.block_lt_of_cell? w _ hx178_1)).trans hx178_1
      replace hx178_2 := (HB.out.cell (World.block_lt_of_cell? w _ hx178_2)).trans hx178_2
      replace hx178_3 := (HB.out.cell (World.block_lt_of_cell? w _ hx178_3)).trans hx178_3
      replace hx178_4 := (HB.out.cell (World.block_lt_of_cell? w _ hx178_4)).trans hx178_4
      replace hx178_5 := (HB.out.cell (World.block_lt_of_cell? w _ hx178_5)).trans hx178_5
      replace p178 := eq_true p178
      replace q178 := eq_true q178
      go_upto_region 4 with (fail)
      go_cut [5] (fun v5 wc => ∃ gb : Nat, v5 = .pointer (some ⟨gb, 0, none⟩) ∧ Aside0 (w.heap.size ≤ gb) ∧ Aside0 (wc.heap[gb]? = some (.cells #[.int .u8 (s.f0), .int .u8 (s.f1), .int .u8 (s.f2.f0), .int .i64 (s.f2.f1), .int .i64 (s.f2.f2), .int .i64 (s.f2.f3)] 27 (0, 0))) ∧ Aside0 (Kd.R k27 27 wc w.heap.size (fun k_ => k_ ≠ gb) u3 ((l0.take i).map pl)) ∧ Aside0 (Below w.heap.size w wc))
      case first =>
        go_wp2_with (first | ((with_reducible refine gate_dst (N := 5) rfl ?_); refine box_event ?hg (N := 5) ?hd (cs := #[.int .u8 0, .int .u8 0, .int .u8 0, .int .i64 0, .int .i64 0, .int .i64 0]) (t := 27) ?hr ?_; (case hd => rfl); (case hg => rfl); (case hr => first | (go_simp; done) | (go_simp; rfl)); intro gb hg wb hbox hb; have n0_ := Aside0.mk (Kd.R_below (Kd.R_mono (Kd.R_elderB (by ((with_reducible repeat (first | apply Kd.R_alloc | apply Kd.R_drewN | apply Kd.R_drew)); exact HO.out)) gb (Nat.le_of_eq hg.symm)) (fun _ h => h.2)) hb); have n1_ := Aside0.mk (below_step (by repeat (first | (with_reducible first | exact HB.out | apply below_alloc | apply pw_below_drewN | apply below_drew1) | exact HB.out)) hb); have Ggb := Aside0.mk ((by rw [hg]; exact (below_size (by repeat (first | (with_reducible first | exact HB.out | apply below_alloc | apply pw_below_drewN | apply below_drew1) | exact HB.out)))) : w.heap.size ≤ gb); clear HO HB; have HO := n0_; have HB := n1_; have Bgb := Aside0.mk hbox; clear n0_ n1_ hb hbox hg; have hz0 : wb.cell? ⟨gb, 0, none⟩ = some (.int .u8 0) := (blk_cell Bgb.out 0).trans rfl; have hy0 := blk_frozen Bgb.out 0; have hz1 : wb.cell? ⟨gb, 1, none⟩ = some (.int .u8 0) := (blk_cell Bgb.out 1).trans rfl; have hy1 := blk_frozen Bgb.out 1; have hz2 : wb.cell? ⟨gb, 2, none⟩ = some (.int .u8 0) := (blk_cell Bgb.out 2).trans rfl; have hy2 := blk_frozen Bgb.out 2; have hz3 : wb.cell? ⟨gb, 3, none⟩ = some (.int .i64 0) := (blk_cell Bgb.out 3).trans rfl; have hy3 := blk_frozen Bgb.out 3; have hz4 : wb.cell? ⟨gb, 4, none⟩ = some (.int .i64 0) := (blk_cell Bgb.out 4).trans rfl; have hy4 := blk_frozen Bgb.out 4; have hz5 : wb.cell? ⟨gb, 5, none⟩ = some (.int .i64 0) := (blk_cell Bgb.out 5).trans rfl; have hy5 := blk_frozen Bgb.out 5))
        go_meet
        exact ⟨gb, rfl, Ggb, ⟨by (with_reducible repeat (first | refine blk_drewN ?_ _ | refine blk_drew ?_ | refine blk_alloc ?_ _)); refine blk_put (cs := #[.int .u8 (s.f0), .int .u8 (s.f1), .int .u8 (s.f2.f0), .int .i64 (s.f2.f1), .int .i64 (s.f2.f2), .int .i64 (0)]) ?_ 5 _ rfl; (with_reducible repeat (first | refine blk_drewN ?_ _ | refine blk_drew ?_ | refine blk_alloc ?_ _)); refine blk_put (cs := #[.int .u8 (s.f0), .int .u8 (s.f1), .int .u8 (s.f2.f0), .int .i64 (s.f2.f1), .int .i64 (0), .int .i64 (0)]) ?_ 4 _ rfl; (with_reducible repeat (first | refine blk_drewN ?_ _ | refine blk_drew ?_ | refine blk_alloc ?_ _)); refine blk_put (cs := #[.int .u8 (s.f0), .int .u8 (s.f1), .int .u8 (s.f2.f0), .int .i64 (0), .int .i64 (0), .int .i64 (0)]) ?_ 3 _ rfl; (with_reducible repeat (first | refine blk_drewN ?_ _ | refine blk_drew ?_ | refine blk_alloc ?_ _)); refine blk_put (cs := #[.int .u8 (s.f0), .int .u8 (s.f1), .int .u8 (0), .int .i64 (0), .int .i64 (0), .int .i64 (0)]) ?_ 2 _ rfl; (with_reducible repeat (first | refine blk_drewN ?_ _ | refine blk_drew ?_ | refine blk_alloc ?_ _)); refine blk_put (cs := #[.int .u8 (s.f0), .int .u8 (0), .int .u8 (0), .int .i64 (0), .int .i64 (0), .int .i64 (0)]) ?_ 1 _ rfl; (with_reducible repeat (first | refine blk_drewN ?_ _ | refine blk_drew ?_ | refine blk_alloc ?_ _)); refine blk_put (cs := #[.int .u8 (0), .int .u8 (0), .int .u8 (0), .int .i64 (0), .int .i64 (0), .int .i64 (0)]) ?_ 0 _ rfl; (with_reducible repeat (first | refine blk_drewN ?_ _ | refine blk_drew ?_ | refine blk_alloc ?_ _)); exact Bgb.out⟩, ⟨by exact Kd.R_far (p := ⟨gb, _, none⟩) (Kd.R_far (p := ⟨gb, _, none⟩) (Kd.R_far (p := ⟨gb, _, none⟩) (Kd.R_far (p := ⟨gb, _, none⟩) (Kd.R_far (p := ⟨gb, _, none⟩) (Kd.R_far (p := ⟨gb, _, none⟩) (HO.out) (fun _ hk => hk) _) (fun _ hk => hk) _) (fun _ hk => hk) _) (fun _ hk => hk) _) (fun _ hk => hk) _) (fun _ hk => hk) _⟩, ⟨by repeat (first | (with_reducible first | exact HB.out | apply below_alloc | apply pw_below_drewN | apply below_drew1 | refine below_set ?_ Ggb.out) | exact HB.out)⟩⟩
      case rest =>
        clear hx178_0 hx178_1 hx178_2 hx178_3 hx178_4 hx178_5 HO HB
        obtain ⟨gb, rfl, Ggb, Bgb, HO, HB⟩ := hcut
        have hcgb0 : World.cell? _ ⟨gb, 0, none⟩ = some (.int .u8 (s.f0)) := (blk_cell Bgb.out 0).trans rfl
        have hfgb0 := blk_frozen Bgb.out 0
        have hcgb1 : World.cell? _ ⟨gb, 1, none⟩ = some (.int .u8 (s.f1)) := (blk_cell Bgb.out 1).trans rfl
        have hfgb1 := blk_frozen Bgb.out 1
        have hcgb2 : World.cell? _ ⟨gb, 2, none⟩ = some (.int .u8 (s.f2.f0)) := (blk_cell Bgb.out 2).trans rfl
        have hfgb2 := blk_frozen Bgb.out 2
        have hcgb3 : World.cell? _ ⟨gb, 3, none⟩ = some (.int .i64 (s.f2.f1)) := (blk_cell Bgb.out 3).trans rfl
        have hfgb3 := blk_frozen Bgb.out 3
        have hcgb4 : World.cell? _ ⟨gb, 4, none⟩ = some (.int .i64 (s.f2.f2)) := (blk_cell Bgb.out 4).trans rfl
        have hfgb4 := blk_frozen Bgb.out 4
        have hcgb5 : World.cell? _ ⟨gb, 5, none⟩ = some (.int .i64 (s.f2.f3)) := (blk_cell Bgb.out 5).trans rfl
        have hfgb5 := blk_frozen Bgb.out 5

        go_upto_region 5 with (fail)
        go_cut [] (fun wc => Aside0 (wc.heap[gb]? = some (.cells #[.int .u8 (Int.tmod s.f0 4), .int .u8 (Int.tmod s.f1 64), .int .u8 (Int.tmod s.f2.f0 12), .int .i64 (s.f2.f1), .int .i64 (s.f2.f2), .int .i64 (s.f2.f3)] 27 (0, 0))) ∧ Aside0 (Kd.R k27 27 wc w.heap.size (fun k_ => k_ ≠ gb) u3 ((l0.take i).map pl)) ∧ Aside0 (Below w.heap.size w wc))
        case first =>
          go_wp2
          go_meet
          exact ⟨⟨by (with_reducible repeat (first | refine blk_drewN ?_ _ | refine blk_drew ?_ | refine blk_alloc ?_ _)); refine blk_put (cs := #[.int .u8 (Int.tmod s.f0 4), .int .u8 (Int.tmod s.f1 64), .int .u8 (s.f2.f0), .int .i64 (s.f2.f1), .int .i64 (s.f2.f2), .int .i64 (s.f2.f3)]) ?_ 2 _ rfl; (with_reducible repeat (first | refine blk_drewN ?_ _ | refine blk_drew ?_ | refine blk_alloc ?_ _)); refine blk_put (cs := #[.int .u8 (Int.tmod s.f0 4), .int .u8 (s.f1), .int .u8 (s.f2.f0), .int .i64 (s.f2.f1), .int .i64 (s.f2.f2), .int .i64 (s.f2.f3)]) ?_ 1 _ rfl; (with_reducible repeat (first | refine blk_drewN ?_ _ | refine blk_drew ?_ | refine blk_alloc ?_ _)); refine blk_put (cs := #[.int .u8 (s.f0), .int .u8 (s.f1), .int .u8 (s.f2.f0), .int .i64 (s.f2.f1), .int .i64 (s.f2.f2), .int .i64 (s.f2.f3)]) ?_ 0 _ rfl; (with_reducible repeat (first | refine blk_drewN ?_ _ | refine blk_drew ?_ | refine blk_alloc ?_ _)); exact Bgb.out⟩, ⟨by exact Kd.R_far (p := ⟨gb, _, none⟩) (Kd.R_far (p := ⟨gb, _, none⟩) (Kd.R_far (p := ⟨gb, _, none⟩) (HO.out) (fun _ hk => hk) _) (fun _ hk => hk) _) (fun _ hk => hk) _⟩, ⟨by repeat (first | (with_reducible first | exact HB.out | apply below_alloc | apply pw_below_drewN | apply below_drew1 | refine below_set ?_ Ggb.out) | exact HB.out)⟩⟩
        case rest =>
          clear hcgb0 hfgb0
          clear hcgb1 hfgb1
          clear hcgb2 hfgb2
          clear hcgb3 hfgb3
          clear hcgb4 hfgb4
          clear hcgb5 hfgb5

          clear Bgb HO HB
          obtain ⟨Bgb, HO, HB⟩ := hcut
          obtain ⟨e4, he⟩ : ∃ x, x = Int.tmod s.f0 4 := ⟨_, rfl⟩
          obtain ⟨d64, hd⟩ : ∃ x, x = Int.tmod s.f1 64 := ⟨_, rfl⟩
          obtain ⟨K12, hk⟩ : ∃ x, x = Int.tmod s.f2.f0 12 := ⟨_, rfl⟩
          rw [← he, ← hd, ← hk] at Bgb
          have He := Aside0.mk he
          have Hd := Aside0.mk hd
          have HK := Aside0.mk hk
          have HM := Aside0.mk (many_of K12 (by rw [hk]; exact Int.tmod_nonneg _ HsK.out))
          clear he hd hk
          by_cases m0 : manyOf K12 = 0
          · have m0a : (manyOf K12 == 0) = true := beq_iff_eq.mpr m0
            have M0 := Aside0.mk m0
            clear m0
            have hcgb0 : World.cell? _ ⟨gb, 0, none⟩ = some (.int .u8 (e4)) := (blk_cell Bgb.out 0).trans rfl
            have hfgb0 := blk_frozen Bgb.out 0
            have hcgb1 : World.cell? _ ⟨gb, 1, none⟩ = some (.int .u8 (d64)) := (blk_cell Bgb.out 1).trans rfl
            have hfgb1 := blk_frozen Bgb.out 1
            have hcgb2 : World.cell? _ ⟨gb, 2, none⟩ = some (.int .u8 (K12)) := (blk_cell Bgb.out 2).trans rfl
            have hfgb2 := blk_frozen Bgb.out 2
            have hcgb3 : World.cell? _ ⟨gb, 3, none⟩ = some (.int .i64 (s.f2.f1)) := (blk_cell Bgb.out 3).trans rfl
            have hfgb3 := blk_frozen Bgb.out 3
            have hcgb4 : World.cell? _ ⟨gb, 4, none⟩ = some (.int .i64 (s.f2.f2)) := (blk_cell Bgb.out 4).trans rfl
            have hfgb4 := blk_frozen Bgb.out 4
            have hcgb5 : World.cell? _ ⟨gb, 5, none⟩ = some (.int .i64 (s.f2.f3)) := (blk_cell Bgb.out 5).trans rfl
            have hfgb5 := blk_frozen Bgb.out 5

            go_upto_region 14 with (first | ((with_reducible refine gate_callee (f := 21) rfl ?_); refine goesL_ (some 29) rfl rfl Try.func21 (by kernel_rfl) rfl #[.int .u8 K12] rfl (by (try simp only [List.map_toArray, List.map_cons, List.map_nil]); first | done | rfl | (simp only [List.length_drop, List.length_take]; rfl)) ?_; (with_reducible refine (boscagelaw18_Many.calls 2 K12 (manyOf K12) _ HM.out).mono ?_); rintro e w' ⟨rfl, ⟨nd, rfl⟩⟩; refine ⟨_, rfl, ?_⟩))
            go_cut [60] (fun v60 wc => v60 = .bool (e4 != 0) ∧ Aside0 (wc.heap[gb]? = some (.cells #[.int .u8 (e4), .int .u8 (d64), .int .u8 (K12), .int .i64 (0), .int .i64 (0), .int .i64 (0)] 27 (0, 0))) ∧ Aside0 (Kd.R k27 27 wc w.heap.size (fun k_ => k_ ≠ gb) u3 ((l0.take i).map pl)) ∧ Aside0 (Below w.heap.size w wc))
            case first =>
              go_wp2
              go_meet
              exact ⟨by first | rfl | (simp; done), ⟨by (with_reducible repeat (first | refine blk_drewN ?_ _ | refine blk_drew ?_ | refine blk_alloc ?_ _)); refine blk_put (cs := #[.int .u8 (e4), .int .u8 (d64), .int .u8 (K12), .int .i64 (0), .int .i64 (0), .int .i64 (s.f2.f3)]) ?_ 5 _ rfl; (with_reducible repeat (first | refine blk_drewN ?_ _ | refine blk_drew ?_ | refine blk_alloc ?_ _)); refine blk_put (cs := #[.int .u8 (e4), .int .u8 (d64), .int .u8 (K12), .int .i64 (0), .int .i64 (s.f2.f2), .int .i64 (s.f2.f3)]) ?_ 4 _ rfl; (with_reducible repeat (first | refine blk_drewN ?_ _ | refine blk_drew ?_ | refine blk_alloc ?_ _)); refine blk_put (cs := #[.int .u8 (e4), .int .u8 (d64), .int .u8 (K12), .int .i64 (s.f2.f1), .int .i64 (s.f2.f2), .int .i64 (s.f2.f3)]) ?_ 3 _ rfl; (with_reducible repeat (first | refine blk_drewN ?_ _ | refine blk_drew ?_ | refine blk_alloc ?_ _)); exact Bgb.out⟩, ⟨by (with_reducible repeat (first | apply Kd.R_alloc | apply Kd.R_drewN | apply Kd.R_drew)); exact Kd.R_far (p := ⟨gb, _, none⟩) (Kd.R_far (p := ⟨gb, _, none⟩) (Kd.R_far (p := ⟨gb, _, none⟩) (HO.out) (fun _ hk => hk) _) (fun _ hk => hk) _) (fun _ hk => hk) _⟩, ⟨by repeat (first | (with_reducible first | exact HB.out | apply below_alloc | apply pw_below_drewN | apply below_drew1 | refine below_set ?_ Ggb.out) | exact HB.out)⟩⟩
            case rest =>
              clear hcgb0 hfgb0
              clear hcgb1 hfgb1
              clear hcgb2 hfgb2
              clear hcgb3 hfgb3
              clear hcgb4 hfgb4
              clear hcgb5 hfgb5
              clear Bgb HO HB
              obtain ⟨rfl, Bgb, HO, HB⟩ := hcut
              by_cases h4 : e4 = 0
              · have h4a : (e4 == 0) = true := beq_iff_eq.mpr h4
                have h4b : (e4 != 0) = false := bne_eq_false_iff_eq.mpr h4
                have Hp := Aside0.mk (show pl s = (⟨e4, d64, (⟨K12, 0, 0, 0⟩ : S25)⟩ : S27) from by have h1 := He.out; have h2 := Hd.out; have h3 := HK.out; show plw (Int.tmod s.f0 4) (Int.tmod s.f1 64) (Int.tmod s.f2.f0 12) s.f2.f1 s.f2.f2 s.f2.f3 = _; rw [← h1, ← h2, ← h3]; unfold plw; rw [if_pos h4, if_pos M0.out])
                clear h4
                have hcgb0 : World.cell? _ ⟨gb, 0, none⟩ = some (.int .u8 (e4)) := (blk_cell Bgb.out 0).trans rfl
                have hfgb0 := blk_frozen Bgb.out 0
                have hcgb1 : World.cell? _ ⟨gb, 1, none⟩ = some (.int .u8 (d64)) := (blk_cell Bgb.out 1).trans rfl
                have hfgb1 := blk_frozen Bgb.out 1
                have hcgb2 : World.cell? _ ⟨gb, 2, none⟩ = some (.int .u8 (K12)) := (blk_cell Bgb.out 2).trans rfl
                have hfgb2 := blk_frozen Bgb.out 2
                have hcgb3 : World.cell? _ ⟨gb, 3, none⟩ = some (.int .i64 (0)) := (blk_cell Bgb.out 3).trans rfl
                have hfgb3 := blk_frozen Bgb.out 3
                have hcgb4 : World.cell? _ ⟨gb, 4, none⟩ = some (.int .i64 (0)) := (blk_cell Bgb.out 4).trans rfl
                have hfgb4 := blk_frozen Bgb.out 4
                have hcgb5 : World.cell? _ ⟨gb, 5, none⟩ = some (.int .i64 (0)) := (blk_cell Bgb.out 5).trans rfl
                have hfgb5 := blk_frozen Bgb.out 5
                go_wp2_with (first | ((with_reducible refine gate_builtin (b := .append) (xs := #[.tmp 63, .tmp 65]) rfl ?_); at_builtin; refine Kd.R_append k27 (w0 := w) w.heap.size rfl (.tmp 63) (.tmp 65) 30 27 (.agg #[.int .u8 0, .int .u8 0, .int .u8 0, .int .i64 0, .int .i64 0, .int .i64 0]) 40 rfl Try.underlying30 info27 rfl (by decide) (by omega) u3 ((l0.take i).map pl) (⟨e4, d64, (⟨K12, 0, 0, 0⟩ : S25)⟩ : S27) [.int .u8 (e4), .int .u8 (d64), .int .u8 (K12), .int .i64 (0), .int .i64 (0), .int .i64 (0)] (fun _ => True) (fun _ => False) rfl (by first | (go_simp; done) | (go_simp; rfl)) ?aP (fun _ hk => hk.elim) ?aF ?aO ?aB ?aS ?aL ?_; (case aP => exact k27_mkM _ _ _ (⟨e4, d64, (⟨K12, 0, 0, 0⟩ : S25)⟩ : S27)); (case aF => exact (fun _ _ => trivial)); (case aO => exact (by (with_reducible repeat (first | apply Kd.R_alloc | apply Kd.R_drewN | apply Kd.R_drew)); exact Kd.R_mono HO.out (fun _ _ => trivial))); (case aB => exact (by repeat (first | (with_reducible first | exact HB.out | apply below_alloc | apply pw_below_drewN | apply below_drew1) | exact HB.out))); (case aS => exact (below_size (by repeat (first | (with_reducible first | exact HB.out | apply below_alloc | apply pw_below_drewN | apply below_drew1) | exact HB.out)))); (case aL => have := LM.out; omega); intro v5_ w5 ho hb hg hat; have n0_ := Aside0.mk ho; have n1_ := Aside0.mk hb; clear HO HB; have HO := n0_; have HB := n1_; clear n0_ n1_ ho hb hg hat))
                go_roundg k1
                case measure => have := HK1.out; omega
                case rel => exact ⟨i + 1, by have := HK1.out; omega, congrArg (Value.int .i64) (wup LM.out.2), ⟨by have h := HO.out; rw [← Hp.out, ← Hs.out, ← take_snoc_pl l0 i Hi.out] at h; exact h⟩, HB⟩
              · have h4a : (e4 == 0) = false := beq_eq_false_iff_ne.mpr h4
                have h4b : (e4 != 0) = true := bne_iff_ne.mpr h4
                have Hp := Aside0.mk (show pl s = (⟨e4, d64, (⟨0, 0, 0, 0⟩ : S25)⟩ : S27) from by have h1 := He.out; have h2 := Hd.out; have h3 := HK.out; show plw (Int.tmod s.f0 4) (Int.tmod s.f1 64) (Int.tmod s.f2.f0 12) s.f2.f1 s.f2.f2 s.f2.f3 = _; rw [← h1, ← h2, ← h3]; unfold plw; rw [if_neg h4])
                clear h4
                have hcgb0 : World.cell? _ ⟨gb, 0, none⟩ = some (.int .u8 (e4)) := (blk_cell Bgb.out 0).trans rfl
                have hfgb0 := blk_frozen Bgb.out 0
                have hcgb1 : World.cell? _ ⟨gb, 1, none⟩ = some (.int .u8 (d64)) := (blk_cell Bgb.out 1).trans rfl
                have hfgb1 := blk_frozen Bgb.out 1
                have hcgb2 : World.cell? _ ⟨gb, 2, none⟩ = some (.int .u8 (K12)) := (blk_cell Bgb.out 2).trans rfl
                have hfgb2 := blk_frozen Bgb.out 2
                have hcgb3 : World.cell? _ ⟨gb, 3, none⟩ = some (.int .i64 (0)) := (blk_cell Bgb.out 3).trans rfl
                have hfgb3 := blk_frozen Bgb.out 3
                have hcgb4 : World.cell? _ ⟨gb, 4, none⟩ = some (.int .i64 (0)) := (blk_cell Bgb.out 4).trans rfl
                have hfgb4 := blk_frozen Bgb.out 4
                have hcgb5 : World.cell? _ ⟨gb, 5, none⟩ = some (.int .i64 (0)) := (blk_cell Bgb.out 5).trans rfl
                have hfgb5 := blk_frozen Bgb.out 5
                go_wp2_with (first | ((with_reducible refine gate_builtin (b := .append) (xs := #[.tmp 63, .tmp 65]) rfl ?_); at_builtin; refine Kd.R_append k27 (w0 := w) w.heap.size rfl (.tmp 63) (.tmp 65) 30 27 (.agg #[.int .u8 0, .int .u8 0, .int .u8 0, .int .i64 0, .int .i64 0, .int .i64 0]) 40 rfl Try.underlying30 info27 rfl (by decide) (by omega) u3 ((l0.take i).map pl) (⟨e4, d64, (⟨0, 0, 0, 0⟩ : S25)⟩ : S27) [.int .u8 (e4), .int .u8 (d64), .int .u8 (0), .int .i64 (0), .int .i64 (0), .int .i64 (0)] (fun _ => True) (fun _ => False) rfl (by first | (go_simp; done) | (go_simp; rfl)) ?aP (fun _ hk => hk.elim) ?aF ?aO ?aB ?aS ?aL ?_; (case aP => exact k27_mkM _ _ _ (⟨e4, d64, (⟨0, 0, 0, 0⟩ : S25)⟩ : S27)); (case aF => exact (fun _ _ => trivial)); (case aO => exact (by (with_reducible repeat (first | apply Kd.R_alloc | apply Kd.R_drewN | apply Kd.R_drew)); exact Kd.R_mono (Kd.R_far (p := ⟨gb, _, none⟩) (Kd.R_far (p := ⟨gb, _, none⟩) (Kd.R_far (p := ⟨gb, _, none⟩) (Kd.R_far (p := ⟨gb, _, none⟩) (HO.out) (fun _ hk => hk) _) (fun _ hk => hk) _) (fun _ hk => hk) _) (fun _ hk => hk) _) (fun _ _ => trivial))); (case aB => exact (by repeat (first | (with_reducible first | exact HB.out | apply below_alloc | apply pw_below_drewN | apply below_drew1 | refine below_set ?_ Ggb.out) | exact HB.out))); (case aS => exact (below_size (by repeat (first | (with_reducible first | exact HB.out | apply below_alloc | apply pw_below_drewN | apply below_drew1 | refine below_set ?_ Ggb.out) | exact HB.out)))); (case aL => have := LM.out; omega); intro v5_ w5 ho hb hg hat; have n0_ := Aside0.mk ho; have n1_ := Aside0.mk hb; clear HO HB; have HO := n0_; have HB := n1_; clear n0_ n1_ ho hb hg hat))
                go_roundg k1
                case measure => have := HK1.out; omega
                case rel => exact ⟨i + 1, by have := HK1.out; omega, congrArg (Value.int .i64) (wup LM.out.2), ⟨by have h := HO.out; rw [← Hp.out, ← Hs.out, ← take_snoc_pl l0 i Hi.out] at h; exact h⟩, HB⟩

          · have m0a : (manyOf K12 == 0) = false := beq_eq_false_iff_ne.mpr m0
            have M0 := Aside0.mk m0
            clear m0
            by_cases m1 : manyOf K12 = 1
            · have m1a : (manyOf K12 == 1) = true := beq_iff_eq.mpr m1
              have M1 := Aside0.mk m1
              clear m1
              have hcgb0 : World.cell? _ ⟨gb, 0, none⟩ = some (.int .u8 (e4)) := (blk_cell Bgb.out 0).trans rfl
              have hfgb0 := blk_frozen Bgb.out 0
              have hcgb1 : World.cell? _ ⟨gb, 1, none⟩ = some (.int .u8 (d64)) := (blk_cell Bgb.out 1).trans rfl
              have hfgb1 := blk_frozen Bgb.out 1
              have hcgb2 : World.cell? _ ⟨gb, 2, none⟩ = some (.int .u8 (K12)) := (blk_cell Bgb.out 2).trans rfl
              have hfgb2 := blk_frozen Bgb.out 2
              have hcgb3 : World.cell? _ ⟨gb, 3, none⟩ = some (.int .i64 (s.f2.f1)) := (blk_cell Bgb.out 3).trans rfl
              have hfgb3 := blk_frozen Bgb.out 3
              have hcgb4 : World.cell? _ ⟨gb, 4, none⟩ = some (.int .i64 (s.f2.f2)) := (blk_cell Bgb.out 4).trans rfl
              have hfgb4 := blk_frozen Bgb.out 4
              have hcgb5 : World.cell? _ ⟨gb, 5, none⟩ = some (.int .i64 (s.f2.f3)) := (blk_cell Bgb.out 5).trans rfl
              have hfgb5 := blk_frozen Bgb.out 5

              go_upto_region 14 with (first | ((with_reducible refine gate_callee (f := 21) rfl ?_); refine goesL_ (some 29) rfl rfl Try.func21 (by kernel_rfl) rfl #[.int .u8 K12] rfl (by (try simp only [List.map_toArray, List.map_cons, List.map_nil]); first | done | rfl | (simp only [List.length_drop, List.length_take]; rfl)) ?_; (with_reducible refine (boscagelaw18_Many.calls 2 K12 (manyOf K12) _ HM.out).mono ?_); rintro e w' ⟨rfl, ⟨nd, rfl⟩⟩; refine ⟨_, rfl, ?_⟩))
              go_cut [60] (fun v60 wc => v60 = .bool (e4 != 0) ∧ Aside0 (wc.heap[gb]? = some (.cells #[.int .u8 (e4), .int .u8 (d64), .int .u8 (K12), .int .i64 (s.f2.f1), .int .i64 (0), .int .i64 (0)] 27 (0, 0))) ∧ Aside0 (Kd.R k27 27 wc w.heap.size (fun k_ => k_ ≠ gb) u3 ((l0.take i).map pl)) ∧ Aside0 (Below w.heap.size w wc))
              case first =>
                go_wp2
                go_meet
                exact ⟨by first | rfl | (simp; done), ⟨by (with_reducible repeat (first | refine blk_drewN ?_ _ | refine blk_drew ?_ | refine blk_alloc ?_ _)); refine blk_put (cs := #[.int .u8 (e4), .int .u8 (d64), .int .u8 (K12), .int .i64 (s.f2.f1), .int .i64 (0), .int .i64 (s.f2.f3)]) ?_ 5 _ rfl; (with_reducible repeat (first | refine blk_drewN ?_ _ | refine blk_drew ?_ | refine blk_alloc ?_ _)); refine blk_put (cs := #[.int .u8 (e4), .int .u8 (d64), .int .u8 (K12), .int .i64 (s.f2.f1), .int .i64 (s.f2.f2), .int .i64 (s.f2.f3)]) ?_ 4 _ rfl; (with_reducible repeat (first | refine blk_drewN ?_ _ | refine blk_drew ?_ | refine blk_alloc ?_ _)); exact Bgb.out⟩, ⟨by (with_reducible repeat (first | apply Kd.R_alloc | apply Kd.R_drewN | apply Kd.R_drew)); exact Kd.R_far (p := ⟨gb, _, none⟩) (Kd.R_far (p := ⟨gb, _, none⟩) (HO.out) (fun _ hk => hk) _) (fun _ hk => hk) _⟩, ⟨by repeat (first | (with_reducible first | exact HB.out | apply below_alloc | apply pw_below_drewN | apply below_drew1 | refine below_set ?_ Ggb.out) | exact HB.out)⟩⟩
              case rest =>
                clear hcgb0 hfgb0
                clear hcgb1 hfgb1
                clear hcgb2 hfgb2
                clear hcgb3 hfgb3
                clear hcgb4 hfgb4
                clear hcgb5 hfgb5
                clear Bgb HO HB
                obtain ⟨rfl, Bgb, HO, HB⟩ := hcut
                by_cases h4 : e4 = 0
                · have h4a : (e4 == 0) = true := beq_iff_eq.mpr h4
                  have h4b : (e4 != 0) = false := bne_eq_false_iff_eq.mpr h4
                  have Hp := Aside0.mk (show pl s = (⟨e4, d64, (⟨K12, s.f2.f1, 0, 0⟩ : S25)⟩ : S27) from by have h1 := He.out; have h2 := Hd.out; have h3 := HK.out; show plw (Int.tmod s.f0 4) (Int.tmod s.f1 64) (Int.tmod s.f2.f0 12) s.f2.f1 s.f2.f2 s.f2.f3 = _; rw [← h1, ← h2, ← h3]; unfold plw; rw [if_pos h4, if_neg M0.out, if_pos M1.out])
                  clear h4
                  have hcgb0 : World.cell? _ ⟨gb, 0, none⟩ = some (.int .u8 (e4)) := (blk_cell Bgb.out 0).trans rfl
                  have hfgb0 := blk_frozen Bgb.out 0
                  have hcgb1 : World.cell? _ ⟨gb, 1, none⟩ = some (.int .u8 (d64)) := (blk_cell Bgb.out 1).trans rfl
                  have hfgb1 := blk_frozen Bgb.out 1
                  have hcgb2 : World.cell? _ ⟨gb, 2, none⟩ = some (.int .u8 (K12)) := (blk_cell Bgb.out 2).trans rfl
                  have hfgb2 := blk_frozen Bgb.out 2
                  have hcgb3 : World.cell? _ ⟨gb, 3, none⟩ = some (.int .i64 (s.f2.f1)) := (blk_cell Bgb.out 3).trans rfl
                  have hfgb3 := blk_frozen Bgb.out 3
                  have hcgb4 : World.cell? _ ⟨gb, 4, none⟩ = some (.int .i64 (0)) := (blk_cell Bgb.out 4).trans rfl
                  have hfgb4 := blk_frozen Bgb.out 4
                  have hcgb5 : World.cell? _ ⟨gb, 5, none⟩ = some (.int .i64 (0)) := (blk_cell Bgb.out 5).trans rfl
                  have hfgb5 := blk_frozen Bgb.out 5
                  go_wp2_with (first | ((with_reducible refine gate_builtin (b := .append) (xs := #[.tmp 63, .tmp 65]) rfl ?_); at_builtin; refine Kd.R_append k27 (w0 := w) w.heap.size rfl (.tmp 63) (.tmp 65) 30 27 (.agg #[.int .u8 0, .int .u8 0, .int .u8 0, .int .i64 0, .int .i64 0, .int .i64 0]) 40 rfl Try.underlying30 info27 rfl (by decide) (by omega) u3 ((l0.take i).map pl) (⟨e4, d64, (⟨K12, s.f2.f1, 0, 0⟩ : S25)⟩ : S27) [.int .u8 (e4), .int .u8 (d64), .int .u8 (K12), .int .i64 (s.f2.f1), .int .i64 (0), .int .i64 (0)] (fun _ => True) (fun _ => False) rfl (by first | (go_simp; done) | (go_simp; rfl)) ?aP (fun _ hk => hk.elim) ?aF ?aO ?aB ?aS ?aL ?_; (case aP => exact k27_mkM _ _ _ (⟨e4, d64, (⟨K12, s.f2.f1, 0, 0⟩ : S25)⟩ : S27)); (case aF => exact (fun _ _ => trivial)); (case aO => exact (by (with_reducible repeat (first | apply Kd.R_alloc | apply Kd.R_drewN | apply Kd.R_drew)); exact Kd.R_mono HO.out (fun _ _ => trivial))); (case aB => exact (by repeat (first | (with_reducible first | exact HB.out | apply below_alloc | apply pw_below_drewN | apply below_drew1) | exact HB.out))); (case aS => exact (below_size (by repeat (first | (with_reducible first | exact HB.out | apply below_alloc | apply pw_below_drewN | apply below_drew1) | exact HB.out)))); (case aL => have := LM.out; omega); intro v5_ w5 ho hb hg hat; have n0_ := Aside0.mk ho; have n1_ := Aside0.mk hb; clear HO HB; have HO := n0_; have HB := n1_; clear n0_ n1_ ho hb hg hat))
                  go_roundg k1
                  case measure => have := HK1.out; omega
                  case rel => exact ⟨i + 1, by have := HK1.out; omega, congrArg (Value.int .i64) (wup LM.out.2), ⟨by have h := HO.out; rw [← Hp.out, ← Hs.out, ← take_snoc_pl l0 i Hi.out] at h; exact h⟩, HB⟩
                · have h4a : (e4 == 0) = false := beq_eq_false_iff_ne.mpr h4
                  have h4b : (e4 != 0) = true := bne_iff_ne.mpr h4
                  have Hp := Aside0.mk (show pl s = (⟨e4, d64, (⟨0, 0, 0, 0⟩ : S25)⟩ : S27) from by have h1 := He.out; have h2 := Hd.out; have h3 := HK.out; show plw (Int.tmod s.f0 4) (Int.tmod s.f1 64) (Int.tmod s.f2.f0 12) s.f2.f1 s.f2.f2 s.f2.f3 = _; rw [← h1, ← h2, ← h3]; unfold plw; rw [if_neg h4])
                  clear h4
                  have hcgb0 : World.cell? _ ⟨gb, 0, none⟩ = some (.int .u8 (e4)) := (blk_cell Bgb.out 0).trans rfl
                  have hfgb0 := blk_frozen Bgb.out 0
                  have hcgb1 : World.cell? _ ⟨gb, 1, none⟩ = some (.int .u8 (d64)) := (blk_cell Bgb.out 1).trans rfl
                  have hfgb1 := blk_frozen Bgb.out 1
                  have hcgb2 : World.cell? _ ⟨gb, 2, none⟩ = some (.int .u8 (K12)) := (blk_cell Bgb.out 2).trans rfl
                  have hfgb2 := blk_frozen Bgb.out 2
                  have hcgb3 : World.cell? _ ⟨gb, 3, none⟩ = some (.int .i64 (s.f2.f1)) := (blk_cell Bgb.out 3).trans rfl
                  have hfgb3 := blk_frozen Bgb.out 3
                  have hcgb4 : World.cell? _ ⟨gb, 4, none⟩ = some (.int .i64 (0)) := (blk_cell Bgb.out 4).trans rfl
                  have hfgb4 := blk_frozen Bgb.out 4
                  have hcgb5 : World.cell? _ ⟨gb, 5, none⟩ = some (.int .i64 (0)) := (blk_cell Bgb.out 5).trans rfl
                  have hfgb5 := blk_frozen Bgb.out 5
                  go_wp2_with (first | ((with_reducible refine gate_builtin (b := .append) (xs := #[.tmp 63, .tmp 65]) rfl ?_); at_builtin; refine Kd.R_append k27 (w0 := w) w.heap.size rfl (.tmp 63) (.tmp 65) 30 27 (.agg #[.int .u8 0, .int .u8 0, .int .u8 0, .int .i64 0, .int .i64 0, .int .i64 0]) 40 rfl Try.underlying30 info27 rfl (by decide) (by omega) u3 ((l0.take i).map pl) (⟨e4, d64, (⟨0, 0, 0, 0⟩ : S25)⟩ : S27) [.int .u8 (e4), .int .u8 (d64), .int .u8 (0), .int .i64 (0), .int .i64 (0), .int .i64 (0)] (fun _ => True) (fun _ => False) rfl (by first | (go_simp; done) | (go_simp; rfl)) ?aP (fun _ hk => hk.elim) ?aF ?aO ?aB ?aS ?aL ?_; (case aP => exact k27_mkM _ _ _ (⟨e4, d64, (⟨0, 0, 0, 0⟩ : S25)⟩ : S27)); (case aF => exact (fun _ _ => trivial)); (case aO => exact (by (with_reducible repeat (first | apply Kd.R_alloc | apply Kd.R_drewN | apply Kd.R_drew)); exact Kd.R_mono (Kd.R_far (p := ⟨gb, _, none⟩) (Kd.R_far (p := ⟨gb, _, none⟩) (Kd.R_far (p := ⟨gb, _, none⟩) (Kd.R_far (p := ⟨gb, _, none⟩) (HO.out) (fun _ hk => hk) _) (fun _ hk => hk) _) (fun _ hk => hk) _) (fun _ hk => hk) _) (fun _ _ => trivial))); (case aB => exact (by repeat (first | (with_reducible first | exact HB.out | apply below_alloc | apply pw_below_drewN | apply below_drew1 | refine below_set ?_ Ggb.out) | exact HB.out))); (case aS => exact (below_size (by repeat (first | (with_reducible first | exact HB.out | apply below_alloc | apply pw_below_drewN | apply below_drew1 | refine below_set ?_ Ggb.out) | exact HB.out)))); (case aL => have := LM.out; omega); intro v5_ w5 ho hb hg hat; have n0_ := Aside0.mk ho; have n1_ := Aside0.mk hb; clear HO HB; have HO := n0_; have HB := n1_; clear n0_ n1_ ho hb hg hat))
                  go_roundg k1
                  case measure => have := HK1.out; omega
                  case rel => exact ⟨i + 1, by have := HK1.out; omega, congrArg (Value.int .i64) (wup LM.out.2), ⟨by have h := HO.out; rw [← Hp.out, ← Hs.out, ← take_snoc_pl l0 i Hi.out] at h; exact h⟩, HB⟩

            · have m1a : (manyOf K12 == 1) = false := beq_eq_false_iff_ne.mpr m1
              have M1 := Aside0.mk m1
              clear m1
              by_cases k1' : K12 = 1
              · have k1a : (K12 == 1) = true := beq_iff_eq.mpr k1'
                have M2 := Aside0.mk k1'
                clear k1'
                have hcgb0 : World.cell? _ ⟨gb, 0, none⟩ = some (.int .u8 (e4)) := (blk_cell Bgb.out 0).trans rfl
                have hfgb0 := blk_frozen Bgb.out 0
                have hcgb1 : World.cell? _ ⟨gb, 1, none⟩ = some (.int .u8 (d64)) := (blk_cell Bgb.out 1).trans rfl
                have hfgb1 := blk_frozen Bgb.out 1
                have hcgb2 : World.cell? _ ⟨gb, 2, none⟩ = some (.int .u8 (K12)) := (blk_cell Bgb.out 2).trans rfl
                have hfgb2 := blk_frozen Bgb.out 2
                have hcgb3 : World.cell? _ ⟨gb, 3, none⟩ = some (.int .i64 (s.f2.f1)) := (blk_cell Bgb.out 3).trans rfl
                have hfgb3 := blk_frozen Bgb.out 3
                have hcgb4 : World.cell? _ ⟨gb, 4, none⟩ = some (.int .i64 (s.f2.f2)) := (blk_cell Bgb.out 4).trans rfl
                have hfgb4 := blk_frozen Bgb.out 4
                have hcgb5 : World.cell? _ ⟨gb, 5, none⟩ = some (.int .i64 (s.f2.f3)) := (blk_cell Bgb.out 5).trans rfl
                have hfgb5 := blk_frozen Bgb.out 5

                go_upto_region 14 with (first | ((with_reducible refine gate_callee (f := 21) rfl ?_); refine goesL_ (some 29) rfl rfl Try.func21 (by kernel_rfl) rfl #[.int .u8 K12] rfl (by (try simp only [List.map_toArray, List.map_cons, List.map_nil]); first | done | rfl | (simp only [List.length_drop, List.length_take]; rfl)) ?_; (with_reducible refine (boscagelaw18_Many.calls 2 K12 (manyOf K12) _ HM.out).mono ?_); rintro e w' ⟨rfl, ⟨nd, rfl⟩⟩; refine ⟨_, rfl, ?_⟩))
                go_cut [60] (fun v60 wc => v60 = .bool (e4 != 0) ∧ Aside0 (wc.heap[gb]? = some (.cells #[.int .u8 (e4), .int .u8 (d64), .int .u8 (K12), .int .i64 (s.f2.f1), .int .i64 (0), .int .i64 (s.f2.f3)] 27 (0, 0))) ∧ Aside0 (Kd.R k27 27 wc w.heap.size (fun k_ => k_ ≠ gb) u3 ((l0.take i).map pl)) ∧ Aside0 (Below w.heap.size w wc))
                case first =>
                  go_wp2
                  go_meet
                  exact ⟨by first | rfl | (simp; done), ⟨by (with_reducible repeat (first | refine blk_drewN ?_ _ | refine blk_drew ?_ | refine blk_alloc ?_ _)); refine blk_put (cs := #[.int .u8 (e4), .int .u8 (d64), .int .u8 (K12), .int .i64 (s.f2.f1), .int .i64 (s.f2.f2), .int .i64 (s.f2.f3)]) ?_ 4 _ rfl; (with_reducible repeat (first | refine blk_drewN ?_ _ | refine blk_drew ?_ | refine blk_alloc ?_ _)); exact Bgb.out⟩, ⟨by (with_reducible repeat (first | apply Kd.R_alloc | apply Kd.R_drewN | apply Kd.R_drew)); exact Kd.R_far (p := ⟨gb, _, none⟩) (HO.out) (fun _ hk => hk) _⟩, ⟨by repeat (first | (with_reducible first | exact HB.out | apply below_alloc | apply pw_below_drewN | apply below_drew1 | refine below_set ?_ Ggb.out) | exact HB.out)⟩⟩
                case rest =>
                  clear hcgb0 hfgb0
                  clear hcgb1 hfgb1
                  clear hcgb2 hfgb2
                  clear hcgb3 hfgb3
                  clear hcgb4 hfgb4
                  clear hcgb5 hfgb5
                  clear Bgb HO HB
                  obtain ⟨rfl, Bgb, HO, HB⟩ := hcut
                  by_cases h4 : e4 = 0
                  · have h4a : (e4 == 0) = true := beq_iff_eq.mpr h4
                    have h4b : (e4 != 0) = false := bne_eq_false_iff_eq.mpr h4
                    have Hp := Aside0.mk (show pl s = (⟨e4, d64, (⟨K12, s.f2.f1, 0, s.f2.f3⟩ : S25)⟩ : S27) from by have h1 := He.out; have h2 := Hd.out; have h3 := HK.out; show plw (Int.tmod s.f0 4) (Int.tmod s.f1 64) (Int.tmod s.f2.f0 12) s.f2.f1 s.f2.f2 s.f2.f3 = _; rw [← h1, ← h2, ← h3]; unfold plw; rw [if_pos h4, if_neg M0.out, if_neg M1.out, if_pos (Or.inl M2.out)])
                    clear h4
                    have hcgb0 : World.cell? _ ⟨gb, 0, none⟩ = some (.int .u8 (e4)) := (blk_cell Bgb.out 0).trans rfl
                    have hfgb0 := blk_frozen Bgb.out 0
                    have hcgb1 : World.cell? _ ⟨gb, 1, none⟩ = some (.int .u8 (d64)) := (blk_cell Bgb.out 1).trans rfl
                    have hfgb1 := blk_frozen Bgb.out 1
                    have hcgb2 : World.cell? _ ⟨gb, 2, none⟩ = some (.int .u8 (K12)) := (blk_cell Bgb.out 2).trans rfl
                    have hfgb2 := blk_frozen Bgb.out 2
                    have hcgb3 : World.cell? _ ⟨gb, 3, none⟩ = some (.int .i64 (s.f2.f1)) := (blk_cell Bgb.out 3).trans rfl
                    have hfgb3 := blk_frozen Bgb.out 3
                    have hcgb4 : World.cell? _ ⟨gb, 4, none⟩ = some (.int .i64 (0)) := (blk_cell Bgb.out 4).trans rfl
                    have hfgb4 := blk_frozen Bgb.out 4
                    have hcgb5 : World.cell? _ ⟨gb, 5, none⟩ = some (.int .i64 (s.f2.f3)) := (blk_cell Bgb.out 5).trans rfl
                    have hfgb5 := blk_frozen Bgb.out 5
                    go_wp2_with (first | ((with_reducible refine gate_builtin (b := .append) (xs := #[.tmp 63, .tmp 65]) rfl ?_); at_builtin; refine Kd.R_append k27 (w0 := w) w.heap.size rfl (.tmp 63) (.tmp 65) 30 27 (.agg #[.int .u8 0, .int .u8 0, .int .u8 0, .int .i64 0, .int .i64 0, .int .i64 0]) 40 rfl Try.underlying30 info27 rfl (by decide) (by omega) u3 ((l0.take i).map pl) (⟨e4, d64, (⟨K12, s.f2.f1, 0, s.f2.f3⟩ : S25)⟩ : S27) [.int .u8 (e4), .int .u8 (d64), .int .u8 (K12), .int .i64 (s.f2.f1), .int .i64 (0), .int .i64 (s.f2.f3)] (fun _ => True) (fun _ => False) rfl (by first | (go_simp; done) | (go_simp; rfl)) ?aP (fun _ hk => hk.elim) ?aF ?aO ?aB ?aS ?aL ?_; (case aP => exact k27_mkM _ _ _ (⟨e4, d64, (⟨K12, s.f2.f1, 0, s.f2.f3⟩ : S25)⟩ : S27)); (case aF => exact (fun _ _ => trivial)); (case aO => exact (by (with_reducible repeat (first | apply Kd.R_alloc | apply Kd.R_drewN | apply Kd.R_drew)); exact Kd.R_mono HO.out (fun _ _ => trivial))); (case aB => exact (by repeat (first | (with_reducible first | exact HB.out | apply below_alloc | apply pw_below_drewN | apply below_drew1) | exact HB.out))); (case aS => exact (below_size (by repeat (first | (with_reducible first | exact HB.out | apply below_alloc | apply pw_below_drewN | apply below_drew1) | exact HB.out)))); (case aL => have := LM.out; omega); intro v5_ w5 ho hb hg hat; have n0_ := Aside0.mk ho; have n1_ := Aside0.mk hb; clear HO HB; have HO := n0_; have HB := n1_; clear n0_ n1_ ho hb hg hat))
                    go_roundg k1
                    case measure => have := HK1.out; omega
                    case rel => exact ⟨i + 1, by have := HK1.out; omega, congrArg (Value.int .i64) (wup LM.out.2), ⟨by have h := HO.out; rw [← Hp.out, ← Hs.out, ← take_snoc_pl l0 i Hi.out] at h; exact h⟩, HB⟩
                  · have h4a : (e4 == 0) = false := beq_eq_false_iff_ne.mpr h4
                    have h4b : (e4 != 0) = true := bne_iff_ne.mpr h4
                    have Hp := Aside0.mk (show pl s = (⟨e4, d64, (⟨0, 0, 0, 0⟩ : S25)⟩ : S27) from by have h1 := He.out; have h2 := Hd.out; have h3 := HK.out; show plw (Int.tmod s.f0 4) (Int.tmod s.f1 64) (Int.tmod s.f2.f0 12) s.f2.f1 s.f2.f2 s.f2.f3 = _; rw [← h1, ← h2, ← h3]; unfold plw; rw [if_neg h4])
                    clear h4
                    have hcgb0 : World.cell? _ ⟨gb, 0, none⟩ = some (.int .u8 (e4)) := (blk_cell Bgb.out 0).trans rfl
                    have hfgb0 := blk_frozen Bgb.out 0
                    have hcgb1 : World.cell? _ ⟨gb, 1, none⟩ = some (.int .u8 (d64)) := (blk_cell Bgb.out 1).trans rfl
                    have hfgb1 := blk_frozen Bgb.out 1
                    have hcgb2 : World.cell? _ ⟨gb, 2, none⟩ = some (.int .u8 (K12)) := (blk_cell Bgb.out 2).trans rfl
                    have hfgb2 := blk_frozen Bgb.out 2
                    have hcgb3 : World.cell? _ ⟨gb, 3, none⟩ = some (.int .i64 (s.f2.f1)) := (blk_cell Bgb.out 3).trans rfl
                    have hfgb3 := blk_frozen Bgb.out 3
                    have hcgb4 : World.cell? _ ⟨gb, 4, none⟩ = some (.int .i64 (0)) := (blk_cell Bgb.out 4).trans rfl
                    have hfgb4 := blk_frozen Bgb.out 4
                    have hcgb5 : World.cell? _ ⟨gb, 5, none⟩ = some (.int .i64 (s.f2.f3)) := (blk_cell Bgb.out 5).trans rfl
                    have hfgb5 := blk_frozen Bgb.out 5
                    go_wp2_with (first | ((with_reducible refine gate_builtin (b := .append) (xs := #[.tmp 63, .tmp 65]) rfl ?_); at_builtin; refine Kd.R_append k27 (w0 := w) w.heap.size rfl (.tmp 63) (.tmp 65) 30 27 (.agg #[.int .u8 0, .int .u8 0, .int .u8 0, .int .i64 0, .int .i64 0, .int .i64 0]) 40 rfl Try.underlying30 info27 rfl (by decide) (by omega) u3 ((l0.take i).map pl) (⟨e4, d64, (⟨0, 0, 0, 0⟩ : S25)⟩ : S27) [.int .u8 (e4), .int .u8 (d64), .int .u8 (0), .int .i64 (0), .int .i64 (0), .int .i64 (0)] (fun _ => True) (fun _ => False) rfl (by first | (go_simp; done) | (go_simp; rfl)) ?aP (fun _ hk => hk.elim) ?aF ?aO ?aB ?aS ?aL ?_; (case aP => exact k27_mkM _ _ _ (⟨e4, d64, (⟨0, 0, 0, 0⟩ : S25)⟩ : S27)); (case aF => exact (fun _ _ => trivial)); (case aO => exact (by (with_reducible repeat (first | apply Kd.R_alloc | apply Kd.R_drewN | apply Kd.R_drew)); exact Kd.R_mono (Kd.R_far (p := ⟨gb, _, none⟩) (Kd.R_far (p := ⟨gb, _, none⟩) (Kd.R_far (p := ⟨gb, _, none⟩) (Kd.R_far (p := ⟨gb, _, none⟩) (HO.out) (fun _ hk => hk) _) (fun _ hk => hk) _) (fun _ hk => hk) _) (fun _ hk => hk) _) (fun _ _ => trivial))); (case aB => exact (by repeat (first | (with_reducible first | exact HB.out | apply below_alloc | apply pw_below_drewN | apply below_drew1 | refine below_set ?_ Ggb.out) | exact HB.out))); (case aS => exact (below_size (by repeat (first | (with_reducible first | exact HB.out | apply below_alloc | apply pw_below_drewN | apply below_drew1 | refine below_set ?_ Ggb.out) | exact HB.out)))); (case aL => have := LM.out; omega); intro v5_ w5 ho hb hg hat; have n0_ := Aside0.mk ho; have n1_ := Aside0.mk hb; clear HO HB; have HO := n0_; have HB := n1_; clear n0_ n1_ ho hb hg hat))
                    go_roundg k1
                    case measure => have := HK1.out; omega
                    case rel => exact ⟨i + 1, by have := HK1.out; omega, congrArg (Value.int .i64) (wup LM.out.2), ⟨by have h := HO.out; rw [← Hp.out, ← Hs.out, ← take_snoc_pl l0 i Hi.out] at h; exact h⟩, HB⟩

              · have k1a : (K12 == 1) = false := beq_eq_false_iff_ne.mpr k1'
                have M2 := Aside0.mk k1'
                clear k1'
                by_cases k2' : K12 = 2
                · have k2a : (K12 == 2) = true := beq_iff_eq.mpr k2'
                  have M3 := Aside0.mk k2'
                  clear k2'
                  have hcgb0 : World.cell? _ ⟨gb, 0, none⟩ = some (.int .u8 (e4)) := (blk_cell Bgb.out 0).trans rfl
                  have hfgb0 := blk_frozen Bgb.out 0
                  have hcgb1 : World.cell? _ ⟨gb, 1, none⟩ = some (.int .u8 (d64)) := (blk_cell Bgb.out 1).trans rfl
                  have hfgb1 := blk_frozen Bgb.out 1
                  have hcgb2 : World.cell? _ ⟨gb, 2, none⟩ = some (.int .u8 (K12)) := (blk_cell Bgb.out 2).trans rfl
                  have hfgb2 := blk_frozen Bgb.out 2
                  have hcgb3 : World.cell? _ ⟨gb, 3, none⟩ = some (.int .i64 (s.f2.f1)) := (blk_cell Bgb.out 3).trans rfl
                  have hfgb3 := blk_frozen Bgb.out 3
                  have hcgb4 : World.cell? _ ⟨gb, 4, none⟩ = some (.int .i64 (s.f2.f2)) := (blk_cell Bgb.out 4).trans rfl
                  have hfgb4 := blk_frozen Bgb.out 4
                  have hcgb5 : World.cell? _ ⟨gb, 5, none⟩ = some (.int .i64 (s.f2.f3)) := (blk_cell Bgb.out 5).trans rfl
                  have hfgb5 := blk_frozen Bgb.out 5

                  go_upto_region 14 with (first | ((with_reducible refine gate_callee (f := 21) rfl ?_); refine goesL_ (some 29) rfl rfl Try.func21 (by kernel_rfl) rfl #[.int .u8 K12] rfl (by (try simp only [List.map_toArray, List.map_cons, List.map_nil]); first | done | rfl | (simp only [List.length_drop, List.length_take]; rfl)) ?_; (with_reducible refine (boscagelaw18_Many.calls 2 K12 (manyOf K12) _ HM.out).mono ?_); rintro e w' ⟨rfl, ⟨nd, rfl⟩⟩; refine ⟨_, rfl, ?_⟩))
                  go_cut [60] (fun v60 wc => v60 = .bool (e4 != 0) ∧ Aside0 (wc.heap[gb]? = some (.cells #[.int .u8 (e4), .int .u8 (d64), .int .u8 (K12), .int .i64 (s.f2.f1), .int .i64 (0), .int .i64 (s.f2.f3)] 27 (0, 0))) ∧ Aside0 (Kd.R k27 27 wc w.heap.size (fun k_ => k_ ≠ gb) u3 ((l0.take i).map pl)) ∧ Aside0 (Below w.heap.size w wc))
                  case first =>
                    go_wp2
                    go_meet
                    exact ⟨by first | rfl | (simp; done), ⟨by (with_reducible repeat (first | refine blk_drewN ?_ _ | refine blk_drew ?_ | refine blk_alloc ?_ _)); refine blk_put (cs := #[.int .u8 (e4), .int .u8 (d64), .int .u8 (K12), .int .i64 (s.f2.f1), .int .i64 (s.f2.f2), .int .i64 (s.f2.f3)]) ?_ 4 _ rfl; (with_reducible repeat (first | refine blk_drewN ?_ _ | refine blk_drew ?_ | refine blk_alloc ?_ _)); exact Bgb.out⟩, ⟨by (with_reducible repeat (first | apply Kd.R_alloc | apply Kd.R_drewN | apply Kd.R_drew)); exact Kd.R_far (p := ⟨gb, _, none⟩) (HO.out) (fun _ hk => hk) _⟩, ⟨by repeat (first | (with_reducible first | exact HB.out | apply below_alloc | apply pw_below_drewN | apply below_drew1 | refine below_set ?_ Ggb.out) | exact HB.out)⟩⟩
                  case rest =>
                    clear hcgb0 hfgb0
                    clear hcgb1 hfgb1
                    clear hcgb2 hfgb2
                    clear hcgb3 hfgb3
                    clear hcgb4 hfgb4
                    clear hcgb5 hfgb5
                    clear Bgb HO HB
                    obtain ⟨rfl, Bgb, HO, HB⟩ := hcut
                    by_cases h4 : e4 = 0
                    · have h4a : (e4 == 0) = true := beq_iff_eq.mpr h4
                      have h4b : (e4 != 0) = false := bne_eq_false_iff_eq.mpr h4
                      have Hp := Aside0.mk (show pl s = (⟨e4, d64, (⟨K12, s.f2.f1, 0, s.f2.f3⟩ : S25)⟩ : S27) from by have h1 := He.out; have h2 := Hd.out; have h3 := HK.out; show plw (Int.tmod s.f0 4) (Int.tmod s.f1 64) (Int.tmod s.f2.f0 12) s.f2.f1 s.f2.f2 s.f2.f3 = _; rw [← h1, ← h2, ← h3]; unfold plw; rw [if_pos h4, if_neg M0.out, if_neg M1.out, if_pos (Or.inr M3.out)])
                      clear h4
                      have hcgb0 : World.cell? _ ⟨gb, 0, none⟩ = some (.int .u8 (e4)) := (blk_cell Bgb.out 0).trans rfl
                      have hfgb0 := blk_frozen Bgb.out 0
                      have hcgb1 : World.cell? _ ⟨gb, 1, none⟩ = some (.int .u8 (d64)) := (blk_cell Bgb.out 1).trans rfl
                      have hfgb1 := blk_frozen Bgb.out 1
                      have hcgb2 : World.cell? _ ⟨gb, 2, none⟩ = some (.int .u8 (K12)) := (blk_cell Bgb.out 2).trans rfl
                      have hfgb2 := blk_frozen Bgb.out 2
                      have hcgb3 : World.cell? _ ⟨gb, 3, none⟩ = some (.int .i64 (s.f2.f1)) := (blk_cell Bgb.out 3).trans rfl
                      have hfgb3 := blk_frozen Bgb.out 3
                      have hcgb4 : World.cell? _ ⟨gb, 4, none⟩ = some (.int .i64 (0)) := (blk_cell Bgb.out 4).trans rfl
                      have hfgb4 := blk_frozen Bgb.out 4
                      have hcgb5 : World.cell? _ ⟨gb, 5, none⟩ = some (.int .i64 (s.f2.f3)) := (blk_cell Bgb.out 5).trans rfl
                      have hfgb5 := blk_frozen Bgb.out 5
                      go_wp2_with (first | ((with_reducible refine gate_builtin (b := .append) (xs := #[.tmp 63, .tmp 65]) rfl ?_); at_builtin; refine Kd.R_append k27 (w0 := w) w.heap.size rfl (.tmp 63) (.tmp 65) 30 27 (.agg #[.int .u8 0, .int .u8 0, .int .u8 0, .int .i64 0, .int .i64 0, .int .i64 0]) 40 rfl Try.underlying30 info27 rfl (by decide) (by omega) u3 ((l0.take i).map pl) (⟨e4, d64, (⟨K12, s.f2.f1, 0, s.f2.f3⟩ : S25)⟩ : S27) [.int .u8 (e4), .int .u8 (d64), .int .u8 (K12), .int .i64 (s.f2.f1), .int .i64 (0), .int .i64 (s.f2.f3)] (fun _ => True) (fun _ => False) rfl (by first | (go_simp; done) | (go_simp; rfl)) ?aP (fun _ hk => hk.elim) ?aF ?aO ?aB ?aS ?aL ?_; (case aP => exact k27_mkM _ _ _ (⟨e4, d64, (⟨K12, s.f2.f1, 0, s.f2.f3⟩ : S25)⟩ : S27)); (case aF => exact (fun _ _ => trivial)); (case aO => exact (by (with_reducible repeat (first | apply Kd.R_alloc | apply Kd.R_drewN | apply Kd.R_drew)); exact Kd.R_mono HO.out (fun _ _ => trivial))); (case aB => exact (by repeat (first | (with_reducible first | exact HB.out | apply below_alloc | apply pw_below_drewN | apply below_drew1) | exact HB.out))); (case aS => exact (below_size (by repeat (first | (with_reducible first | exact HB.out | apply below_alloc | apply pw_below_drewN | apply below_drew1) | exact HB.out)))); (case aL => have := LM.out; omega); intro v5_ w5 ho hb hg hat; have n0_ := Aside0.mk ho; have n1_ := Aside0.mk hb; clear HO HB; have HO := n0_; have HB := n1_; clear n0_ n1_ ho hb hg hat))
                      go_roundg k1
                      case measure => have := HK1.out; omega
                      case rel => exact ⟨i + 1, by have := HK1.out; omega, congrArg (Value.int .i64) (wup LM.out.2), ⟨by have h := HO.out; rw [← Hp.out, ← Hs.out, ← take_snoc_pl l0 i Hi.out] at h; exact h⟩, HB⟩
                    · have h4a : (e4 == 0) = false := beq_eq_false_iff_ne.mpr h4
                      have h4b : (e4 != 0) = true := bne_iff_ne.mpr h4
                      have Hp := Aside0.mk (show pl s = (⟨e4, d64, (⟨0, 0, 0, 0⟩ : S25)⟩ : S27) from by have h1 := He.out; have h2 := Hd.out; have h3 := HK.out; show plw (Int.tmod s.f0 4) (Int.tmod s.f1 64) (Int.tmod s.f2.f0 12) s.f2.f1 s.f2.f2 s.f2.f3 = _; rw [← h1, ← h2, ← h3]; unfold plw; rw [if_neg h4])
                      clear h4
                      have hcgb0 : World.cell? _ ⟨gb, 0, none⟩ = some (.int .u8 (e4)) := (blk_cell Bgb.out 0).trans rfl
                      have hfgb0 := blk_frozen Bgb.out 0
                      have hcgb1 : World.cell? _ ⟨gb, 1, none⟩ = some (.int .u8 (d64)) := (blk_cell Bgb.out 1).trans rfl
                      have hfgb1 := blk_frozen Bgb.out 1
                      have hcgb2 : World.cell? _ ⟨gb, 2, none⟩ = some (.int .u8 (K12)) := (blk_cell Bgb.out 2).trans rfl
                      have hfgb2 := blk_frozen Bgb.out 2
                      have hcgb3 : World.cell? _ ⟨gb, 3, none⟩ = some (.int .i64 (s.f2.f1)) := (blk_cell Bgb.out 3).trans rfl
                      have hfgb3 := blk_frozen Bgb.out 3
                      have hcgb4 : World.cell? _ ⟨gb, 4, none⟩ = some (.int .i64 (0)) := (blk_cell Bgb.out 4).trans rfl
                      have hfgb4 := blk_frozen Bgb.out 4
                      have hcgb5 : World.cell? _ ⟨gb, 5, none⟩ = some (.int .i64 (s.f2.f3)) := (blk_cell Bgb.out 5).trans rfl
                      have hfgb5 := blk_frozen Bgb.out 5
                      go_wp2_with (first | ((with_reducible refine gate_builtin (b := .append) (xs := #[.tmp 63, .tmp 65]) rfl ?_); at_builtin; refine Kd.R_append k27 (w0 := w) w.heap.size rfl (.tmp 63) (.tmp 65) 30 27 (.agg #[.int .u8 0, .int .u8 0, .int .u8 0, .int .i64 0, .int .i64 0, .int .i64 0]) 40 rfl Try.underlying30 info27 rfl (by decide) (by omega) u3 ((l0.take i).map pl) (⟨e4, d64, (⟨0, 0, 0, 0⟩ : S25)⟩ : S27) [.int .u8 (e4), .int .u8 (d64), .int .u8 (0), .int .i64 (0), .int .i64 (0), .int .i64 (0)] (fun _ => True) (fun _ => False) rfl (by first | (go_simp; done) | (go_simp; rfl)) ?aP (fun _ hk => hk.elim) ?aF ?aO ?aB ?aS ?aL ?_; (case aP => exact k27_mkM _ _ _ (⟨e4, d64, (⟨0, 0, 0, 0⟩ : S25)⟩ : S27)); (case aF => exact (fun _ _ => trivial)); (case aO => exact (by (with_reducible repeat (first | apply Kd.R_alloc | apply Kd.R_drewN | apply Kd.R_drew)); exact Kd.R_mono (Kd.R_far (p := ⟨gb, _, none⟩) (Kd.R_far (p := ⟨gb, _, none⟩) (Kd.R_far (p := ⟨gb, _, none⟩) (Kd.R_far (p := ⟨gb, _, none⟩) (HO.out) (fun _ hk => hk) _) (fun _ hk => hk) _) (fun _ hk => hk) _) (fun _ hk => hk) _) (fun _ _ => trivial))); (case aB => exact (by repeat (first | (with_reducible first | exact HB.out | apply below_alloc | apply pw_below_drewN | apply below_drew1 | refine below_set ?_ Ggb.out) | exact HB.out))); (case aS => exact (below_size (by repeat (first | (with_reducible first | exact HB.out | apply below_alloc | apply pw_below_drewN | apply below_drew1 | refine below_set ?_ Ggb.out) | exact HB.out)))); (case aL => have := LM.out; omega); intro v5_ w5 ho hb hg hat; have n0_ := Aside0.mk ho; have n1_ := Aside0.mk hb; clear HO HB; have HO := n0_; have HB := n1_; clear n0_ n1_ ho hb hg hat))
                      go_roundg k1
                      case measure => have := HK1.out; omega
                      case rel => exact ⟨i + 1, by have := HK1.out; omega, congrArg (Value.int .i64) (wup LM.out.2), ⟨by have h := HO.out; rw [← Hp.out, ← Hs.out, ← take_snoc_pl l0 i Hi.out] at h; exact h⟩, HB⟩

                · have k2a : (K12 == 2) = false := beq_eq_false_iff_ne.mpr k2'
                  have M3 := Aside0.mk k2'
                  clear k2'
                  have hcgb0 : World.cell? _ ⟨gb, 0, none⟩ = some (.int .u8 (e4)) := (blk_cell Bgb.out 0).trans rfl
                  have hfgb0 := blk_frozen Bgb.out 0
                  have hcgb1 : World.cell? _ ⟨gb, 1, none⟩ = some (.int .u8 (d64)) := (blk_cell Bgb.out 1).trans rfl
                  have hfgb1 := blk_frozen Bgb.out 1
                  have hcgb2 : World.cell? _ ⟨gb, 2, none⟩ = some (.int .u8 (K12)) := (blk_cell Bgb.out 2).trans rfl
                  have hfgb2 := blk_frozen Bgb.out 2
                  have hcgb3 : World.cell? _ ⟨gb, 3, none⟩ = some (.int .i64 (s.f2.f1)) := (blk_cell Bgb.out 3).trans rfl
                  have hfgb3 := blk_frozen Bgb.out 3
                  have hcgb4 : World.cell? _ ⟨gb, 4, none⟩ = some (.int .i64 (s.f2.f2)) := (blk_cell Bgb.out 4).trans rfl
                  have hfgb4 := blk_frozen Bgb.out 4
                  have hcgb5 : World.cell? _ ⟨gb, 5, none⟩ = some (.int .i64 (s.f2.f3)) := (blk_cell Bgb.out 5).trans rfl
                  have hfgb5 := blk_frozen Bgb.out 5

                  go_upto_region 14 with (first | ((with_reducible refine gate_callee (f := 21) rfl ?_); refine goesL_ (some 29) rfl rfl Try.func21 (by kernel_rfl) rfl #[.int .u8 K12] rfl (by (try simp only [List.map_toArray, List.map_cons, List.map_nil]); first | done | rfl | (simp only [List.length_drop, List.length_take]; rfl)) ?_; (with_reducible refine (boscagelaw18_Many.calls 2 K12 (manyOf K12) _ HM.out).mono ?_); rintro e w' ⟨rfl, ⟨nd, rfl⟩⟩; refine ⟨_, rfl, ?_⟩))
                  go_cut [60] (fun v60 wc => v60 = .bool (e4 != 0) ∧ Aside0 (wc.heap[gb]? = some (.cells #[.int .u8 (e4), .int .u8 (d64), .int .u8 (K12), .int .i64 (s.f2.f1), .int .i64 (s.f2.f2), .int .i64 (0)] 27 (0, 0))) ∧ Aside0 (Kd.R k27 27 wc w.heap.size (fun k_ => k_ ≠ gb) u3 ((l0.take i).map pl)) ∧ Aside0 (Below w.heap.size w wc))
                  case first =>
                    go_wp2
                    go_meet
                    exact ⟨by first | rfl | (simp; done), ⟨by (with_reducible repeat (first | refine blk_drewN ?_ _ | refine blk_drew ?_ | refine blk_alloc ?_ _)); refine blk_put (cs := #[.int .u8 (e4), .int .u8 (d64), .int .u8 (K12), .int .i64 (s.f2.f1), .int .i64 (s.f2.f2), .int .i64 (s.f2.f3)]) ?_ 5 _ rfl; (with_reducible repeat (first | refine blk_drewN ?_ _ | refine blk_drew ?_ | refine blk_alloc ?_ _)); exact Bgb.out⟩, ⟨by (with_reducible repeat (first | apply Kd.R_alloc | apply Kd.R_drewN | apply Kd.R_drew)); exact Kd.R_far (p := ⟨gb, _, none⟩) (HO.out) (fun _ hk => hk) _⟩, ⟨by repeat (first | (with_reducible first | exact HB.out | apply below_alloc | apply pw_below_drewN | apply below_drew1 | refine below_set ?_ Ggb.out) | exact HB.out)⟩⟩
                  case rest =>
                    clear hcgb0 hfgb0
                    clear hcgb1 hfgb1
                    clear hcgb2 hfgb2
                    clear hcgb3 hfgb3
                    clear hcgb4 hfgb4
                    clear hcgb5 hfgb5
                    clear Bgb HO HB
                    obtain ⟨rfl, Bgb, HO, HB⟩ := hcut
                    by_cases h4 : e4 = 0
                    · have h4a : (e4 == 0) = true := beq_iff_eq.mpr h4
                      have h4b : (e4 != 0) = false := bne_eq_false_iff_eq.mpr h4
                      have Hp := Aside0.mk (show pl s = (⟨e4, d64, (⟨K12, s.f2.f1, s.f2.f2, 0⟩ : S25)⟩ : S27) from by have h1 := He.out; have h2 := Hd.out; have h3 := HK.out; show plw (Int.tmod s.f0 4) (Int.tmod s.f1 64) (Int.tmod s.f2.f0 12) s.f2.f1 s.f2.f2 s.f2.f3 = _; rw [← h1, ← h2, ← h3]; unfold plw; rw [if_pos h4, if_neg M0.out, if_neg M1.out, if_neg (fun h => h.elim M2.out M3.out)])
                      clear h4
                      have hcgb0 : World.cell? _ ⟨gb, 0, none⟩ = some (.int .u8 (e4)) := (blk_cell Bgb.out 0).trans rfl
                      have hfgb0 := blk_frozen Bgb.out 0
                      have hcgb1 : World.cell? _ ⟨gb, 1, none⟩ = some (.int .u8 (d64)) := (blk_cell Bgb.out 1).trans rfl
                      have hfgb1 := blk_frozen Bgb.out 1
                      have hcgb2 : World.cell? _ ⟨gb, 2, none⟩ = some (.int .u8 (K12)) := (blk_cell Bgb.out 2).trans rfl
                      have hfgb2 := blk_frozen Bgb.out 2
                      have hcgb3 : World.cell? _ ⟨gb, 3, none⟩ = some (.int .i64 (s.f2.f1)) := (blk_cell Bgb.out 3).trans rfl
                      have hfgb3 := blk_frozen Bgb.out 3
                      have hcgb4 : World.cell? _ ⟨gb, 4, none⟩ = some (.int .i64 (s.f2.f2)) := (blk_cell Bgb.out 4).trans rfl
                      have hfgb4 := blk_frozen Bgb.out 4
                      have hcgb5 : World.cell? _ ⟨gb, 5, none⟩ = some (.int .i64 (0)) := (blk_cell Bgb.out 5).trans rfl
                      have hfgb5 := blk_frozen Bgb.out 5
                      go_wp2_with (first | ((with_reducible refine gate_builtin (b := .append) (xs := #[.tmp 63, .tmp 65]) rfl ?_); at_builtin; refine Kd.R_append k27 (w0 := w) w.heap.size rfl (.tmp 63) (.tmp 65) 30 27 (.agg #[.int .u8 0, .int .u8 0, .int .u8 0, .int .i64 0, .int .i64 0, .int .i64 0]) 40 rfl Try.underlying30 info27 rfl (by decide) (by omega) u3 ((l0.take i).map pl) (⟨e4, d64, (⟨K12, s.f2.f1, s.f2.f2, 0⟩ : S25)⟩ : S27) [.int .u8 (e4), .int .u8 (d64), .int .u8 (K12), .int .i64 (s.f2.f1), .int .i64 (s.f2.f2), .int .i64 (0)] (fun _ => True) (fun _ => False) rfl (by first | (go_simp; done) | (go_simp; rfl)) ?aP (fun _ hk => hk.elim) ?aF ?aO ?aB ?aS ?aL ?_; (case aP => exact k27_mkM _ _ _ (⟨e4, d64, (⟨K12, s.f2.f1, s.f2.f2, 0⟩ : S25)⟩ : S27)); (case aF => exact (fun _ _ => trivial)); (case aO => exact (by (with_reducible repeat (first | apply Kd.R_alloc | apply Kd.R_drewN | apply Kd.R_drew)); exact Kd.R_mono HO.out (fun _ _ => trivial))); (case aB => exact (by repeat (first | (with_reducible first | exact HB.out | apply below_alloc | apply pw_below_drewN | apply below_drew1) | exact HB.out))); (case aS => exact (below_size (by repeat (first | (with_reducible first | exact HB.out | apply below_alloc | apply pw_below_drewN | apply below_drew1) | exact HB.out)))); (case aL => have := LM.out; omega); intro v5_ w5 ho hb hg hat; have n0_ := Aside0.mk ho; have n1_ := Aside0.mk hb; clear HO HB; have HO := n0_; have HB := n1_; clear n0_ n1_ ho hb hg hat))
                      go_roundg k1
                      case measure => have := HK1.out; omega
                      case rel => exact ⟨i + 1, by have := HK1.out; omega, congrArg (Value.int .i64) (wup LM.out.2), ⟨by have h := HO.out; rw [← Hp.out, ← Hs.out, ← take_snoc_pl l0 i Hi.out] at h; exact h⟩, HB⟩
                    · have h4a : (e4 == 0) = false := beq_eq_false_iff_ne.mpr h4
                      have h4b : (e4 != 0) = true := bne_iff_ne.mpr h4
                      have Hp := Aside0.mk (show pl s = (⟨e4, d64, (⟨0, 0, 0, 0⟩ : S25)⟩ : S27) from by have h1 := He.out; have h2 := Hd.out; have h3 := HK.out; show plw (Int.tmod s.f0 4) (Int.tmod s.f1 64) (Int.tmod s.f2.f0 12) s.f2.f1 s.f2.f2 s.f2.f3 = _; rw [← h1, ← h2, ← h3]; unfold plw; rw [if_neg h4])
                      clear h4
                      have hcgb0 : World.cell? _ ⟨gb, 0, none⟩ = some (.int .u8 (e4)) := (blk_cell Bgb.out 0).trans rfl
                      have hfgb0 := blk_frozen Bgb.out 0
                      have hcgb1 : World.cell? _ ⟨gb, 1, none⟩ = some (.int .u8 (d64)) := (blk_cell Bgb.out 1).trans rfl
                      have hfgb1 := blk_frozen Bgb.out 1
                      have hcgb2 : World.cell? _ ⟨gb, 2, none⟩ = some (.int .u8 (K12)) := (blk_cell Bgb.out 2).trans rfl
                      have hfgb2 := blk_frozen Bgb.out 2
                      have hcgb3 : World.cell? _ ⟨gb, 3, none⟩ = some (.int .i64 (s.f2.f1)) := (blk_cell Bgb.out 3).trans rfl
                      have hfgb3 := blk_frozen Bgb.out 3
                      have hcgb4 : World.cell? _ ⟨gb, 4, none⟩ = some (.int .i64 (s.f2.f2)) := (blk_cell Bgb.out 4).trans rfl
                      have hfgb4 := blk_frozen Bgb.out 4
                      have hcgb5 : World.cell? _ ⟨gb, 5, none⟩ = some (.int .i64 (0)) := (blk_cell Bgb.out 5).trans rfl
                      have hfgb5 := blk_frozen Bgb.out 5
                      go_wp2_with (first | ((with_reducible refine gate_builtin (b := .append) (xs := #[.tmp 63, .tmp 65]) rfl ?_); at_builtin; refine Kd.R_append k27 (w0 := w) w.heap.size rfl (.tmp 63) (.tmp 65) 30 27 (.agg #[.int .u8 0, .int .u8 0, .int .u8 0, .int .i64 0, .int .i64 0, .int .i64 0]) 40 rfl Try.underlying30 info27 rfl (by decide) (by omega) u3 ((l0.take i).map pl) (⟨e4, d64, (⟨0, 0, 0, 0⟩ : S25)⟩ : S27) [.int .u8 (e4), .int .u8 (d64), .int .u8 (0), .int .i64 (0), .int .i64 (0), .int .i64 (0)] (fun _ => True) (fun _ => False) rfl (by first | (go_simp; done) | (go_simp; rfl)) ?aP (fun _ hk => hk.elim) ?aF ?aO ?aB ?aS ?aL ?_; (case aP => exact k27_mkM _ _ _ (⟨e4, d64, (⟨0, 0, 0, 0⟩ : S25)⟩ : S27)); (case aF => exact (fun _ _ => trivial)); (case aO => exact (by (with_reducible repeat (first | apply Kd.R_alloc | apply Kd.R_drewN | apply Kd.R_drew)); exact Kd.R_mono (Kd.R_far (p := ⟨gb, _, none⟩) (Kd.R_far (p := ⟨gb, _, none⟩) (Kd.R_far (p := ⟨gb, _, none⟩) (Kd.R_far (p := ⟨gb, _, none⟩) (HO.out) (fun _ hk => hk) _) (fun _ hk => hk) _) (fun _ hk => hk) _) (fun _ hk => hk) _) (fun _ _ => trivial))); (case aB => exact (by repeat (first | (with_reducible first | exact HB.out | apply below_alloc | apply pw_below_drewN | apply below_drew1 | refine below_set ?_ Ggb.out) | exact HB.out))); (case aS => exact (below_size (by repeat (first | (with_reducible first | exact HB.out | apply below_alloc | apply pw_below_drewN | apply below_drew1 | refine below_set ?_ Ggb.out) | exact HB.out)))); (case aL => have := LM.out; omega); intro v5_ w5 ho hb hg hat; have n0_ := Aside0.mk ho; have n1_ := Aside0.mk hb; clear HO HB; have HO := n0_; have HB := n1_; clear n0_ n1_ ho hb hg hat))
                      go_roundg k1
                      case measure => have := HK1.out; omega
                      case rel => exact ⟨i + 1, by have := HK1.out; omega, congrArg (Value.int .i64) (wup LM.out.2), ⟨by have h := HO.out; rw [← Hp.out, ← Hs.out, ← take_snoc_pl l0 i Hi.out] at h; exact h⟩, HB⟩


/-- The same, as the printed texts ask for it. -/
def boscagelaw24_plain.f (k : Nat) (l0 : List S27) : Option (List S27) := if (decide (l0.length < 3518437208883) && l0.all (fun s => decide (0 ≤ s.f2.f0))) = true then some (l0.map pl) else none
theorem boscagelaw24_plain.mono : ∀ a0 k, LeO (boscagelaw24_plain.f k a0) (boscagelaw24_plain.f (k + 1) a0) := fun _ _ => LeO.refl _
theorem boscagelaw24_plain.eq (k : Nat) (l0 : List S27) (hl : l0.length < 3518437208883) (hK : ∀ s ∈ l0, 0 ≤ s.f2.f0) : boscagelaw24_plain.f k l0 = some (l0.map pl) := by
  unfold boscagelaw24_plain.f
  rw [if_pos]
  simp only [Bool.and_eq_true, decide_eq_true_eq, List.all_eq_true]
  exact ⟨hl, fun s hs => hK s hs⟩
theorem boscagelaw24_plain.calls (k : Nat) (A0 : Option Addr) (c0 : Nat) (l0 : List (S27)) (r : List (S27)) (w : World) (hr0 : Kd.C k27 w A0 l0.length l0) (hc0 : l0.length ≤ c0) (h : boscagelaw24_plain.f k l0 = some r) :
    Calls Try.prog 12 #[.slice A0 l0.length c0] w fun e w' => ∃ v0_ : Value, e = .returned (v0_) ∧ Kd.R k27 27 w' w.heap.size (fun _ => True) v0_ r ∧ Below w.heap.size w w' := by
  unfold boscagelaw24_plain.f at h
  split at h
  · next hc =>
    simp only [Bool.and_eq_true, decide_eq_true_eq, List.all_eq_true] at hc
    obtain rfl := Option.some.inj h
    exact plain_calls A0 c0 l0 w hr0 hc0 (fun s hs => hc.2 s hs) hc.1
  · cases h
end Go.Proofs.Ytkommjibpeklgaa.PScriptBack
