/- What the program reads of bytes: the loop of Decode, and a walk of its text: whatever bytes lie in a row, the call comes to what the words tell. Condition: the words tell something (no panic, rounds enough). -/
import Derived.Test.YtkommjibpeklgaaMScriptDecodesx7
namespace Go.Proofs.Ytkommjibpeklgaa.PScriptDecodes
open Go.RowKit Go.Proofs.YtkommjibpeklgaaW.PrintWords Go.Proofs.YtkommjibpeklgaaW.PrintLast Go.Proofs.YtkommjibpeklgaaW.PrintMore
attribute [local go_sem] max2_int min2_int max_two min_two max_three min_three max_four min_four
set_option linter.unusedVariables false
set_option linter.unusedSimpArgs false

/-- The loop of Decode: the entries so far, how many were passed over, the bytes, the place. -/
def decL : Nat → List S27 → Int → List Int → Int → Option (List S27 × Int)
  | 0, _, _, _, _ => none
  | k + 1, out, bad, b, at_ => (script_reader_one.f b at_).bind fun c => (if c.2.1 = true then
      (if Go.bits .and .u8 c.1 3 = 0 then ((script_reader_op.f k b c.2.2).bind fun o => (if o.2.2.2.2.1 = true then
          (if out.length < 3518437208883 then decL k (out ++ [⟨Go.bits .and .u8 c.1 3, c.1 / 4, ⟨o.1, o.2.1, o.2.2.1, o.2.2.2.1⟩⟩]) bad b o.2.2.2.2.2 else none)
        else decL k out (wrap64 (bad + 1)) b o.2.2.2.2.2))
      else (if out.length < 3518437208883 then decL k (out ++ [⟨Go.bits .and .u8 c.1 3, c.1 / 4, ⟨0, 0, 0, 0⟩⟩]) bad b c.2.2 else none))
    else some (out, bad))

set_option maxHeartbeats 2000000 in
set_option maxRecDepth 100000 in
theorem decode_calls (k : Nat) (A0 : Option Addr) (c0 : Nat) (l0 : List Int) (r1 : List S27) (r2 : Int) (w : World) (hr0 : Kd.C (Kd.int .u8) w A0 l0.length l0) (hc0 : l0.length ≤ c0) (h : decL k [] 0 l0 0 = some (r1, r2)) :
    Calls Try.prog 16 #[.slice A0 l0.length c0] w fun e w' => ∃ v0_ : Value, e = .returned (.tuple #[v0_, .int .i64 r2]) ∧ Kd.R k27 27 w' w.heap.size (fun _ => True) v0_ r1 ∧ Below w.heap.size w w' := by
  have hu27 := Try.underlying27
  have hu25 := Try.underlying25
  have HR0 := Aside0.mk hr0
  have HC0 := Aside0.mk hc0
  clear hr0 hc0
  have HB := Aside0.mk (Below.refl w.heap.size w)
  have H' := Aside0.mk h
  clear h
  go_enter Try.func16, Try.ntmps16
  go_wp2_with (first | ((with_reducible refine gate_dst (N := 14) rfl ?_); refine box_event ?hg (N := 14) ?hd (cs := #[.slice A0 l0.length c0, .int .i64 0]) (t := 53) ?hr ?_; (case hd => rfl); (case hg => rfl); (case hr => first | (go_simp; done) | (go_simp; rfl)); intro g hg w1 hbox hb; have HI := Aside0.mk (show IsS53 w w1 g l0 0 from ⟨A0, c0, hbox, Nat.le_of_eq hg.symm, HR0.out⟩); have HB1 := Aside0.mk (below_step HB.out hb); clear HB; have HB := HB1; clear HB1 hbox hb hg))
  go_loopg [4, 5] k (fun kq v4 v5 w' => ∃ (out : List S27) (bad at_ : Int), v5 = .int .i64 bad ∧ Aside0 (decL kq out bad l0 at_ = some (r1, r2)) ∧ Aside0 (kq ≤ k) ∧ Aside0 (Kd.R k27 27 w' w.heap.size (fun _ => True) v4 out) ∧ Aside0 (IsS53 w w' g l0 at_) ∧ Aside0 (Below w.heap.size w w'))
  case atStart => exact ⟨[], 0, 0, rfl, H', ⟨Nat.le_refl _⟩, ⟨Kd.R_nil _ _ _ _ _⟩, HI, HB⟩
  case round =>
    clear H' HI HB
    obtain ⟨out, bad, at_, rfl, HA, HK1, HO, HI, HB⟩ := hrel
    cases gk with
    | zero => exact absurd HA.out (by simp [decL])
    | succ k1 =>
      have H := HA.out
      clear HA
      simp only [decL] at H
      replace H := Option.bind_eq_some_iff.mp H
      obtain ⟨⟨t1, t2, t3⟩, A10, H⟩ := H
      have A1 := Aside0.mk A10
      clear A10
      cases t2 with
      | false =>
        replace H : some (out, bad) = some (r1, r2) := by simpa using H
        simp only [Option.some.injEq, Prod.mk.injEq] at H
        obtain ⟨rfl, rfl⟩ := H
        go_wp2_with (first | ((with_reducible refine gate_callee (f := 25) rfl ?_); refine goesL_ (some 17) rfl rfl Try.func25 (by kernel_rfl) rfl #[.pointer (some ⟨g, 0, none⟩)] rfl (by (try simp only [List.map_toArray, List.map_cons, List.map_nil]); first | done | rfl | (simp only [List.length_drop, List.length_take]; rfl)) ?_; (with_reducible refine (script_reader_one.calls g l0 at_ t1 false t3 w _ ?side1 ?side2 A1.out).mono ?_); (case side1 => repeat (first | (with_reducible first | exact HI.out | apply IsS53.alloc | apply IsS53.drewN | apply IsS53.drew) | exact HI.out)); (case side2 => repeat (first | (with_reducible first | exact HB.out | apply below_alloc | apply pw_below_drewN | apply below_drew1) | exact HB.out)); rintro e w2 ⟨rfl, hi, hb, hk⟩; refine ⟨_, rfl, ?_⟩; have n0_ := Aside0.mk (Kd.R_mono (Kd.R_keep (IsS53.apart (show IsS53 w _ g l0 at_ from by repeat (first | (with_reducible first | exact HI.out | apply IsS53.alloc | apply IsS53.drewN | apply IsS53.drew) | exact HI.out)) (by ((with_reducible repeat (first | apply Kd.R_alloc | apply Kd.R_drewN | apply Kd.R_drew)); exact HO.out)) (by decide)) hk (fun _ h => h.2)) (fun _ h => h.1)); have n1_ := Aside0.mk hb; have n2_ := Aside0.mk hi; clear HO HB HI; have HO := n0_; have HB := n1_; have HI := n2_; clear n0_ n1_ n2_ hi hb hk))
        go_ret2
        exact ⟨_, rfl, by ((with_reducible repeat (first | apply Kd.R_alloc | apply Kd.R_drewN | apply Kd.R_drew)); exact HO.out), by repeat (first | (with_reducible first | exact HB.out | apply below_alloc | apply pw_below_drewN | apply below_drew1) | exact HB.out)⟩
      | true =>
        simp only [if_true] at H
        have H' := Aside0.mk H
        clear H
        go_upto_region 7 with (first | ((with_reducible refine gate_callee (f := 25) rfl ?_); refine goesL_ (some 17) rfl rfl Try.func25 (by kernel_rfl) rfl #[.pointer (some ⟨g, 0, none⟩)] rfl (by (try simp only [List.map_toArray, List.map_cons, List.map_nil]); first | done | rfl | (simp only [List.length_drop, List.length_take]; rfl)) ?_; (with_reducible refine (script_reader_one.calls g l0 at_ t1 true t3 w _ ?side1 ?side2 A1.out).mono ?_); (case side1 => repeat (first | (with_reducible first | exact HI.out | apply IsS53.alloc | apply IsS53.drewN | apply IsS53.drew) | exact HI.out)); (case side2 => repeat (first | (with_reducible first | exact HB.out | apply below_alloc | apply pw_below_drewN | apply below_drew1) | exact HB.out)); rintro e w2 ⟨rfl, hi, hb, hk⟩; refine ⟨_, rfl, ?_⟩; have n0_ := Aside0.mk (Kd.R_mono (Kd.R_keep (IsS53.apart (show IsS53 w _ g l0 at_ from by repeat (first | (with_reducible first | exact HI.out | apply IsS53.alloc | apply IsS53.drewN | apply IsS53.drew) | exact HI.out)) (by ((with_reducible repeat (first | apply Kd.R_alloc | apply Kd.R_drewN | apply Kd.R_drew)); exact HO.out)) (by decide)) hk (fun _ h => h.2)) (fun _ h => h.1)); have n1_ := Aside0.mk hb; have n2_ := Aside0.mk hi; clear HO HB HI; have HO := n0_; have HB := n1_; have HI := n2_; clear n0_ n1_ n2_ hi hb hk))
        go_cut [9] (fun v9 wc => ∃ gb : Nat, v9 = .pointer (some ⟨gb, 0, none⟩) ∧ Aside0 (w.heap.size ≤ gb) ∧ Aside0 (wc.heap[gb]? = some (.cells #[.int .u8 (Go.bits .and .u8 t1 3), .int .u8 (t1 / 4), .int .u8 (0), .int .i64 (0), .int .i64 (0), .int .i64 (0)] 27 (0, 0))) ∧ Aside0 (Kd.R k27 27 wc w.heap.size (fun k_ => k_ ≠ gb) u4 out) ∧ Aside0 (IsS53 w wc g l0 t3) ∧ Aside0 (Below w.heap.size w wc))
        case first =>
          go_wp2_with (first | ((with_reducible refine gate_dst (N := 9) rfl ?_); refine box_event ?hg (N := 9) ?hd (cs := #[.int .u8 0, .int .u8 0, .int .u8 0, .int .i64 0, .int .i64 0, .int .i64 0]) (t := 27) ?hr ?_; (case hd => rfl); (case hg => rfl); (case hr => first | (go_simp; done) | (go_simp; rfl)); intro gb hg w3gb hbox hb; have n0_ := Aside0.mk (Kd.R_below (Kd.R_mono (Kd.R_elderB (by ((with_reducible repeat (first | apply Kd.R_alloc | apply Kd.R_drewN | apply Kd.R_drew)); exact HO.out)) gb (Nat.le_of_eq hg.symm)) (fun _ h => h.2)) hb); have n1_ := Aside0.mk (below_step (by repeat (first | (with_reducible first | exact HB.out | apply below_alloc | apply pw_below_drewN | apply below_drew1) | exact HB.out)) hb); have n2_ := Aside0.mk (IsS53.below (by repeat (first | (with_reducible first | exact HI.out | apply IsS53.alloc | apply IsS53.drewN | apply IsS53.drew) | exact HI.out)) hb); have n3_ := Aside0.mk hbox; have Ggb := Aside0.mk ((by rw [hg]; exact (below_size (by repeat (first | (with_reducible first | exact HB.out | apply below_alloc | apply pw_below_drewN | apply below_drew1) | exact HB.out)))) : w.heap.size ≤ gb); clear HO HB HI; have HO := n0_; have HB := n1_; have HI := n2_; have Bgb := n3_; clear n0_ n1_ n2_ n3_; clear hb hbox hg; have hzgb0 : w3gb.cell? ⟨gb, 0, none⟩ = some (.int .u8 0) := (blk_cell Bgb.out 0).trans rfl; have hfgb0 := blk_frozen Bgb.out 0; have hzgb1 : w3gb.cell? ⟨gb, 1, none⟩ = some (.int .u8 0) := (blk_cell Bgb.out 1).trans rfl; have hfgb1 := blk_frozen Bgb.out 1; have hzgb2 : w3gb.cell? ⟨gb, 2, none⟩ = some (.int .u8 0) := (blk_cell Bgb.out 2).trans rfl; have hfgb2 := blk_frozen Bgb.out 2; have hzgb3 : w3gb.cell? ⟨gb, 3, none⟩ = some (.int .i64 0) := (blk_cell Bgb.out 3).trans rfl; have hfgb3 := blk_frozen Bgb.out 3; have hzgb4 : w3gb.cell? ⟨gb, 4, none⟩ = some (.int .i64 0) := (blk_cell Bgb.out 4).trans rfl; have hfgb4 := blk_frozen Bgb.out 4; have hzgb5 : w3gb.cell? ⟨gb, 5, none⟩ = some (.int .i64 0) := (blk_cell Bgb.out 5).trans rfl; have hfgb5 := blk_frozen Bgb.out 5))
          go_meet
          exact ⟨gb, rfl, Ggb, ⟨by (with_reducible repeat (first | refine blk_drewN ?_ _ | refine blk_drew ?_ | refine blk_alloc ?_ _)); refine blk_put (cs := #[.int .u8 (Go.bits .and .u8 t1 3), .int .u8 (t1 / 4), .int .u8 (0), .int .i64 (0), .int .i64 (0), .int .i64 (0)]) ?_ 5 _ rfl; (with_reducible repeat (first | refine blk_drewN ?_ _ | refine blk_drew ?_ | refine blk_alloc ?_ _)); refine blk_put (cs := #[.int .u8 (Go.bits .and .u8 t1 3), .int .u8 (t1 / 4), .int .u8 (0), .int .i64 (0), .int .i64 (0), .int .i64 (0)]) ?_ 4 _ rfl; (with_reducible repeat (first | refine blk_drewN ?_ _ | refine blk_drew ?_ | refine blk_alloc ?_ _)); refine blk_put (cs := #[.int .u8 (Go.bits .and .u8 t1 3), .int .u8 (t1 / 4), .int .u8 (0), .int .i64 (0), .int .i64 (0), .int .i64 (0)]) ?_ 3 _ rfl; (with_reducible repeat (first | refine blk_drewN ?_ _ | refine blk_drew ?_ | refine blk_alloc ?_ _)); refine blk_put (cs := #[.int .u8 (Go.bits .and .u8 t1 3), .int .u8 (t1 / 4), .int .u8 (0), .int .i64 (0), .int .i64 (0), .int .i64 (0)]) ?_ 2 _ rfl; (with_reducible repeat (first | refine blk_drewN ?_ _ | refine blk_drew ?_ | refine blk_alloc ?_ _)); refine blk_put (cs := #[.int .u8 (Go.bits .and .u8 t1 3), .int .u8 (0), .int .u8 (0), .int .i64 (0), .int .i64 (0), .int .i64 (0)]) ?_ 1 _ rfl; (with_reducible repeat (first | refine blk_drewN ?_ _ | refine blk_drew ?_ | refine blk_alloc ?_ _)); refine blk_put (cs := #[.int .u8 (0), .int .u8 (0), .int .u8 (0), .int .i64 (0), .int .i64 (0), .int .i64 (0)]) ?_ 0 _ rfl; (with_reducible repeat (first | refine blk_drewN ?_ _ | refine blk_drew ?_ | refine blk_alloc ?_ _)); exact Bgb.out⟩, ⟨by exact Kd.R_far (p := ⟨gb, _, none⟩) (Kd.R_far (p := ⟨gb, _, none⟩) (Kd.R_far (p := ⟨gb, _, none⟩) (Kd.R_far (p := ⟨gb, _, none⟩) (Kd.R_far (p := ⟨gb, _, none⟩) (Kd.R_far (p := ⟨gb, _, none⟩) (HO.out) (fun _ hk => hk) _) (fun _ hk => hk) _) (fun _ hk => hk) _) (fun _ hk => hk) _) (fun _ hk => hk) _) (fun _ hk => hk) _⟩, ⟨by exact IsS53.far (IsS53.far (IsS53.far (IsS53.far (IsS53.far (IsS53.far (HI.out) (p := ⟨gb, _, none⟩) (IsS53.ne_blk HI.out Bgb.out (by decide)) _) (p := ⟨gb, _, none⟩) (IsS53.ne_blk HI.out Bgb.out (by decide)) _) (p := ⟨gb, _, none⟩) (IsS53.ne_blk HI.out Bgb.out (by decide)) _) (p := ⟨gb, _, none⟩) (IsS53.ne_blk HI.out Bgb.out (by decide)) _) (p := ⟨gb, _, none⟩) (IsS53.ne_blk HI.out Bgb.out (by decide)) _) (p := ⟨gb, _, none⟩) (IsS53.ne_blk HI.out Bgb.out (by decide)) _⟩, ⟨by repeat (first | (with_reducible first | exact HB.out | apply below_alloc | apply pw_below_drewN | apply below_drew1 | refine below_set ?_ Ggb.out) | exact HB.out)⟩⟩
        case rest =>
          obtain ⟨gb, rfl, Ggb, Bgb, HO, HI, HB⟩ := hcut
          have H := H'.out
          clear H'
          by_cases c8 : Go.bits .and .u8 t1 3 = 0
          · rw [if_pos c8] at H
            have c8b0 : (Go.bits .and .u8 t1 3 == 0) = true := beq_iff_eq.mpr c8
            have c8b1 : (Go.bits .and .u8 t1 3 != 0) = false := bne_eq_false_iff_eq.mpr c8
            clear c8
            replace H := Option.bind_eq_some_iff.mp H
            obtain ⟨⟨o1, o2, o3, o4, o5, o6⟩, A20, H⟩ := H
            have A2 := Aside0.mk A20
            clear A20
            have H' := Aside0.mk H
            clear H
            have hcgb0 : World.cell? wc ⟨gb, 0, none⟩ = some (.int .u8 (Go.bits .and .u8 t1 3)) := (blk_cell Bgb.out 0).trans rfl
            have hfgb0 := blk_frozen Bgb.out 0
            have hcgb1 : World.cell? wc ⟨gb, 1, none⟩ = some (.int .u8 (t1 / 4)) := (blk_cell Bgb.out 1).trans rfl
            have hfgb1 := blk_frozen Bgb.out 1
            have hcgb2 : World.cell? wc ⟨gb, 2, none⟩ = some (.int .u8 (0)) := (blk_cell Bgb.out 2).trans rfl
            have hfgb2 := blk_frozen Bgb.out 2
            have hcgb3 : World.cell? wc ⟨gb, 3, none⟩ = some (.int .i64 (0)) := (blk_cell Bgb.out 3).trans rfl
            have hfgb3 := blk_frozen Bgb.out 3
            have hcgb4 : World.cell? wc ⟨gb, 4, none⟩ = some (.int .i64 (0)) := (blk_cell Bgb.out 4).trans rfl
            have hfgb4 := blk_frozen Bgb.out 4
            have hcgb5 : World.cell? wc ⟨gb, 5, none⟩ = some (.int .i64 (0)) := (blk_cell Bgb.out 5).trans rfl
            have hfgb5 := blk_frozen Bgb.out 5

            go_upto_region 9 with (fail)
            go_cut [10, 11] (fun v10 v11 wd => ∃ gc : Nat, v10 = .pointer (some ⟨gc, 0, none⟩) ∧ v11 = .bool o5 ∧ Aside0 (gb ≠ gc) ∧ Aside0 (w.heap.size ≤ gc) ∧ Aside0 (wd.heap[gc]? = some (.cells #[.int .u8 (o1), .int .i64 (o2), .int .i64 (o3), .int .i64 (o4)] 25 (0, 0))) ∧ Aside0 (wd.heap[gb]? = some (.cells #[.int .u8 (Go.bits .and .u8 t1 3), .int .u8 (t1 / 4), .int .u8 (0), .int .i64 (0), .int .i64 (0), .int .i64 (0)] 27 (0, 0))) ∧ Aside0 (Kd.R k27 27 wd w.heap.size (fun k_ => k_ ≠ gb) u4 out) ∧ Aside0 (IsS53 w wd g l0 o6) ∧ Aside0 (Below w.heap.size w wd))
            case first =>
              go_wp2_with (first | ((with_reducible refine gate_callee (f := 26) rfl ?_); refine goesL_ (some 34) rfl rfl Try.func26 (by kernel_rfl) rfl #[.pointer (some ⟨g, 0, none⟩)] rfl (by (try simp only [List.map_toArray, List.map_cons, List.map_nil]); first | done | rfl | (simp only [List.length_drop, List.length_take]; rfl)) ?_; (with_reducible refine (script_reader_op.calls k1 g l0 t3 o1 o2 o3 o4 o5 o6 w _ ?side1 ?side2 A2.out).mono ?_); (case side1 => repeat (first | (with_reducible first | exact HI.out | apply IsS53.alloc | apply IsS53.drewN | apply IsS53.drew) | exact HI.out)); (case side2 => repeat (first | (with_reducible first | exact HB.out | apply below_alloc | apply pw_below_drewN | apply below_drew1) | exact HB.out)); rintro e w2 ⟨rfl, hi, hb, hk⟩; refine ⟨_, rfl, ?_⟩; have n0_ := Aside0.mk (Kd.R_mono (Kd.R_keep (IsS53.apart (show IsS53 w _ g l0 t3 from by repeat (first | (with_reducible first | exact HI.out | apply IsS53.alloc | apply IsS53.drewN | apply IsS53.drew) | exact HI.out)) (by ((with_reducible repeat (first | apply Kd.R_alloc | apply Kd.R_drewN | apply Kd.R_drew)); exact HO.out)) (by decide)) hk (fun _ h => h.2)) (fun _ h => h.1)); have nb_ := Aside0.mk (KeepBut.blk hk (g' := gb) (o := .cells #[.int .u8 (Go.bits .and .u8 t1 3), .int .u8 (t1 / 4), .int .u8 (0), .int .i64 (0), .int .i64 (0), .int .i64 (0)] 27 (0, 0)) (by (with_reducible repeat (first | refine blk_drewN ?_ _ | refine blk_drew ?_ | refine blk_alloc ?_ _)); exact Bgb.out) (IsS53.ne_blk HI.out Bgb.out (by decide)).symm (by simp)); have n1_ := Aside0.mk hb; have n2_ := Aside0.mk hi; clear HO HB HI Bgb; have HO := n0_; have HB := n1_; have HI := n2_; have Bgb := nb_; clear n0_ n1_ n2_ nb_ hi hb hk) | ((with_reducible refine gate_dst (N := 10) rfl ?_); refine box_event ?hg (N := 10) ?hd (cs := #[.int .u8 0, .int .i64 0, .int .i64 0, .int .i64 0]) (t := 25) ?hr ?_; (case hd => rfl); (case hg => rfl); (case hr => first | (go_simp; done) | (go_simp; rfl)); intro gc hg w3gc hbox hb; have n0_ := Aside0.mk (Kd.R_below (Kd.R_elderB (by ((with_reducible repeat (first | apply Kd.R_alloc | apply Kd.R_drewN | apply Kd.R_drew)); exact HO.out)) gc (Nat.le_of_eq hg.symm)) hb); have n1_ := Aside0.mk (below_step (by repeat (first | (with_reducible first | exact HB.out | apply below_alloc | apply pw_below_drewN | apply below_drew1) | exact HB.out)) hb); have n2_ := Aside0.mk (IsS53.below (by repeat (first | (with_reducible first | exact HI.out | apply IsS53.alloc | apply IsS53.drewN | apply IsS53.drew) | exact HI.out)) hb); have n3_ := Aside0.mk hbox; have Ggc := Aside0.mk ((by rw [hg]; exact (below_size (by repeat (first | (with_reducible first | exact HB.out | apply below_alloc | apply pw_below_drewN | apply below_drew1) | exact HB.out)))) : w.heap.size ≤ gc); have mgb_ := Aside0.mk (blk_below (g := gb) (o := .cells #[.int .u8 (Go.bits .and .u8 t1 3), .int .u8 (t1 / 4), .int .u8 (0), .int .i64 (0), .int .i64 (0), .int .i64 (0)] 27 (0, 0)) (by (with_reducible repeat (first | refine blk_drewN ?_ _ | refine blk_drew ?_ | refine blk_alloc ?_ _)); exact Bgb.out) hb); have Ngb_gc := Aside0.mk (by rw [hg]; exact Nat.ne_of_lt (blk_lt (g := gb) (o := .cells #[.int .u8 (Go.bits .and .u8 t1 3), .int .u8 (t1 / 4), .int .u8 (0), .int .i64 (0), .int .i64 (0), .int .i64 (0)] 27 (0, 0)) (by (with_reducible repeat (first | refine blk_drewN ?_ _ | refine blk_drew ?_ | refine blk_alloc ?_ _)); exact Bgb.out)) : gb ≠ gc); clear Bgb; have Bgb := mgb_; clear mgb_; clear HO HB HI; have HO := n0_; have HB := n1_; have HI := n2_; have Bgc := n3_; clear n0_ n1_ n2_ n3_; clear hb hbox hg; have hzgc0 : w3gc.cell? ⟨gc, 0, none⟩ = some (.int .u8 0) := (blk_cell Bgc.out 0).trans rfl; have hfgc0 := blk_frozen Bgc.out 0; have hzgc1 : w3gc.cell? ⟨gc, 1, none⟩ = some (.int .i64 0) := (blk_cell Bgc.out 1).trans rfl; have hfgc1 := blk_frozen Bgc.out 1; have hzgc2 : w3gc.cell? ⟨gc, 2, none⟩ = some (.int .i64 0) := (blk_cell Bgc.out 2).trans rfl; have hfgc2 := blk_frozen Bgc.out 2; have hzgc3 : w3gc.cell? ⟨gc, 3, none⟩ = some (.int .i64 0) := (blk_cell Bgc.out 3).trans rfl; have hfgc3 := blk_frozen Bgc.out 3))
              go_meet
              exact ⟨gc, rfl, rfl, Ngb_gc, Ggc, ⟨by (with_reducible repeat (first | refine blk_drewN ?_ _ | refine blk_drew ?_ | refine blk_alloc ?_ _)); refine blk_put (cs := #[.int .u8 (o1), .int .i64 (o2), .int .i64 (o3), .int .i64 (0)]) ?_ 3 _ rfl; (with_reducible repeat (first | refine blk_drewN ?_ _ | refine blk_drew ?_ | refine blk_alloc ?_ _)); refine blk_put (cs := #[.int .u8 (o1), .int .i64 (o2), .int .i64 (0), .int .i64 (0)]) ?_ 2 _ rfl; (with_reducible repeat (first | refine blk_drewN ?_ _ | refine blk_drew ?_ | refine blk_alloc ?_ _)); refine blk_put (cs := #[.int .u8 (o1), .int .i64 (0), .int .i64 (0), .int .i64 (0)]) ?_ 1 _ rfl; (with_reducible repeat (first | refine blk_drewN ?_ _ | refine blk_drew ?_ | refine blk_alloc ?_ _)); refine blk_put (cs := #[.int .u8 (0), .int .i64 (0), .int .i64 (0), .int .i64 (0)]) ?_ 0 _ rfl; (with_reducible repeat (first | refine blk_drewN ?_ _ | refine blk_drew ?_ | refine blk_alloc ?_ _)); exact Bgc.out⟩, ⟨by (with_reducible repeat (first | refine blk_drewN ?_ _ | refine blk_drew ?_ | refine blk_alloc ?_ _)); exact blk_far (blk_far (blk_far (blk_far (Bgb.out) Ngb_gc.out _) Ngb_gc.out _) Ngb_gc.out _) Ngb_gc.out _⟩, ⟨by exact Kd.R_mono (Kd.R_far (p := ⟨gc, _, none⟩) (Kd.R_far (p := ⟨gc, _, none⟩) (Kd.R_far (p := ⟨gc, _, none⟩) (Kd.R_far (p := ⟨gc, _, none⟩) (HO.out) (fun _ hk => hk.2) _) (fun _ hk => hk.2) _) (fun _ hk => hk.2) _) (fun _ hk => hk.2) _) (fun _ hk => hk.1)⟩, ⟨by exact IsS53.far (IsS53.far (IsS53.far (IsS53.far (HI.out) (p := ⟨gc, _, none⟩) (IsS53.ne_blk HI.out Bgc.out (by decide)) _) (p := ⟨gc, _, none⟩) (IsS53.ne_blk HI.out Bgc.out (by decide)) _) (p := ⟨gc, _, none⟩) (IsS53.ne_blk HI.out Bgc.out (by decide)) _) (p := ⟨gc, _, none⟩) (IsS53.ne_blk HI.out Bgc.out (by decide)) _⟩, ⟨by repeat (first | (with_reducible first | exact HB.out | apply below_alloc | apply pw_below_drewN | apply below_drew1 | refine below_set ?_ Ggc.out) | exact HB.out)⟩⟩
            case rest =>
              clear hcgb0 hfgb0
              clear hcgb1 hfgb1
              clear hcgb2 hfgb2
              clear hcgb3 hfgb3
              clear hcgb4 hfgb4
              clear hcgb5 hfgb5
              obtain ⟨gc, rfl, rfl, Ngb_gc, Ggc, Bgc, Bgb, HO, HI, HB⟩ := hcut
              have H := H'.out
              clear H'
              cases o5 with
              | false =>
                replace H : decL k1 out (wrap64 (bad + 1)) l0 o6 = some (r1, r2) := by simpa using H
                have H' := Aside0.mk H
                clear H
                go_wp2
                go_roundg k1
                case measure => have := HK1.out; omega
                case rel => exact ⟨out, wrap64 (bad + 1), o6, rfl, H', ⟨by have := HK1.out; omega⟩, ⟨Kd.R_mono HO.out (fun _ _ => trivial)⟩, HI, HB⟩
              | true =>
                simp only [if_true] at H
                by_cases c9 : out.length < 3518437208883
                · rw [if_pos c9] at H
                  have LM := Aside0.mk c9
                  clear c9
                  have H' := Aside0.mk H
                  clear H
                  have hnb := Ngb_gc.out
                  have hnc := Ngb_gc.out.symm
                  have hcgb0 : World.cell? _ ⟨gb, 0, none⟩ = some (.int .u8 (Go.bits .and .u8 t1 3)) := (blk_cell Bgb.out 0).trans rfl
                  have hfgb0 := blk_frozen Bgb.out 0
                  have hcgb1 : World.cell? _ ⟨gb, 1, none⟩ = some (.int .u8 (t1 / 4)) := (blk_cell Bgb.out 1).trans rfl
                  have hfgb1 := blk_frozen Bgb.out 1
                  have hcgb2 : World.cell? _ ⟨gb, 2, none⟩ = some (.int .u8 (0)) := (blk_cell Bgb.out 2).trans rfl
                  have hfgb2 := blk_frozen Bgb.out 2
                  have hcgb3 : World.cell? _ ⟨gb, 3, none⟩ = some (.int .i64 (0)) := (blk_cell Bgb.out 3).trans rfl
                  have hfgb3 := blk_frozen Bgb.out 3
                  have hcgb4 : World.cell? _ ⟨gb, 4, none⟩ = some (.int .i64 (0)) := (blk_cell Bgb.out 4).trans rfl
                  have hfgb4 := blk_frozen Bgb.out 4
                  have hcgb5 : World.cell? _ ⟨gb, 5, none⟩ = some (.int .i64 (0)) := (blk_cell Bgb.out 5).trans rfl
                  have hfgb5 := blk_frozen Bgb.out 5

                  have hcgc0 : World.cell? _ ⟨gc, 0, none⟩ = some (.int .u8 (o1)) := (blk_cell Bgc.out 0).trans rfl
                  have hfgc0 := blk_frozen Bgc.out 0
                  have hcgc1 : World.cell? _ ⟨gc, 1, none⟩ = some (.int .i64 (o2)) := (blk_cell Bgc.out 1).trans rfl
                  have hfgc1 := blk_frozen Bgc.out 1
                  have hcgc2 : World.cell? _ ⟨gc, 2, none⟩ = some (.int .i64 (o3)) := (blk_cell Bgc.out 2).trans rfl
                  have hfgc2 := blk_frozen Bgc.out 2
                  have hcgc3 : World.cell? _ ⟨gc, 3, none⟩ = some (.int .i64 (o4)) := (blk_cell Bgc.out 3).trans rfl
                  have hfgc3 := blk_frozen Bgc.out 3

                  go_upto_region 12 with (fail)
                  go_cut [] (fun we => Aside0 (we.heap[gb]? = some (.cells #[.int .u8 (Go.bits .and .u8 t1 3), .int .u8 (t1 / 4), .int .u8 (o1), .int .i64 (o2), .int .i64 (o3), .int .i64 (o4)] 27 (0, 0))) ∧ Aside0 (Kd.R k27 27 we w.heap.size (fun k_ => k_ ≠ gb) u4 out) ∧ Aside0 (IsS53 w we g l0 o6) ∧ Aside0 (Below w.heap.size w we))
                  case first =>
                    go_wp2
                    go_meet
                    exact ⟨⟨by (with_reducible repeat (first | refine blk_drewN ?_ _ | refine blk_drew ?_ | refine blk_alloc ?_ _)); refine blk_put (cs := #[.int .u8 (Go.bits .and .u8 t1 3), .int .u8 (t1 / 4), .int .u8 (o1), .int .i64 (o2), .int .i64 (o3), .int .i64 (0)]) ?_ 5 _ rfl; (with_reducible repeat (first | refine blk_drewN ?_ _ | refine blk_drew ?_ | refine blk_alloc ?_ _)); refine blk_put (cs := #[.int .u8 (Go.bits .and .u8 t1 3), .int .u8 (t1 / 4), .int .u8 (o1), .int .i64 (o2), .int .i64 (0), .int .i64 (0)]) ?_ 4 _ rfl; (with_reducible repeat (first | refine blk_drewN ?_ _ | refine blk_drew ?_ | refine blk_alloc ?_ _)); refine blk_put (cs := #[.int .u8 (Go.bits .and .u8 t1 3), .int .u8 (t1 / 4), .int .u8 (o1), .int .i64 (0), .int .i64 (0), .int .i64 (0)]) ?_ 3 _ rfl; (with_reducible repeat (first | refine blk_drewN ?_ _ | refine blk_drew ?_ | refine blk_alloc ?_ _)); refine blk_put (cs := #[.int .u8 (Go.bits .and .u8 t1 3), .int .u8 (t1 / 4), .int .u8 (0), .int .i64 (0), .int .i64 (0), .int .i64 (0)]) ?_ 2 _ rfl; (with_reducible repeat (first | refine blk_drewN ?_ _ | refine blk_drew ?_ | refine blk_alloc ?_ _)); exact Bgb.out⟩, ⟨by exact Kd.R_far (p := ⟨gb, _, none⟩) (Kd.R_far (p := ⟨gb, _, none⟩) (Kd.R_far (p := ⟨gb, _, none⟩) (Kd.R_far (p := ⟨gb, _, none⟩) (HO.out) (fun _ hk => hk) _) (fun _ hk => hk) _) (fun _ hk => hk) _) (fun _ hk => hk) _⟩, ⟨by exact IsS53.far (IsS53.far (IsS53.far (IsS53.far (HI.out) (p := ⟨gb, _, none⟩) (IsS53.ne_blk HI.out Bgb.out (by decide)) _) (p := ⟨gb, _, none⟩) (IsS53.ne_blk HI.out Bgb.out (by decide)) _) (p := ⟨gb, _, none⟩) (IsS53.ne_blk HI.out Bgb.out (by decide)) _) (p := ⟨gb, _, none⟩) (IsS53.ne_blk HI.out Bgb.out (by decide)) _⟩, ⟨by repeat (first | (with_reducible first | exact HB.out | apply below_alloc | apply pw_below_drewN | apply below_drew1 | refine below_set ?_ Ggb.out) | exact HB.out)⟩⟩
                  case rest =>
                    clear hcgb0 hfgb0
                    clear hcgb1 hfgb1
                    clear hcgb2 hfgb2
                    clear hcgb3 hfgb3
                    clear hcgb4 hfgb4
                    clear hcgb5 hfgb5
                    clear hcgc0 hfgc0
                    clear hcgc1 hfgc1
                    clear hcgc2 hfgc2
                    clear hcgc3 hfgc3
                    clear Bgb Bgc HO HI HB
                    obtain ⟨Bgb, HO, HI, HB⟩ := hcut
                    have hcgb0 : World.cell? _ ⟨gb, 0, none⟩ = some (.int .u8 (Go.bits .and .u8 t1 3)) := (blk_cell Bgb.out 0).trans rfl
                    have hfgb0 := blk_frozen Bgb.out 0
                    have hcgb1 : World.cell? _ ⟨gb, 1, none⟩ = some (.int .u8 (t1 / 4)) := (blk_cell Bgb.out 1).trans rfl
                    have hfgb1 := blk_frozen Bgb.out 1
                    have hcgb2 : World.cell? _ ⟨gb, 2, none⟩ = some (.int .u8 (o1)) := (blk_cell Bgb.out 2).trans rfl
                    have hfgb2 := blk_frozen Bgb.out 2
                    have hcgb3 : World.cell? _ ⟨gb, 3, none⟩ = some (.int .i64 (o2)) := (blk_cell Bgb.out 3).trans rfl
                    have hfgb3 := blk_frozen Bgb.out 3
                    have hcgb4 : World.cell? _ ⟨gb, 4, none⟩ = some (.int .i64 (o3)) := (blk_cell Bgb.out 4).trans rfl
                    have hfgb4 := blk_frozen Bgb.out 4
                    have hcgb5 : World.cell? _ ⟨gb, 5, none⟩ = some (.int .i64 (o4)) := (blk_cell Bgb.out 5).trans rfl
                    have hfgb5 := blk_frozen Bgb.out 5

                    go_wp2_with (first | ((with_reducible refine gate_builtin (b := .append) (xs := #[.tmp 43, .tmp 45]) rfl ?_); at_builtin; refine Kd.R_append k27 (w0 := w) w.heap.size rfl (.tmp 43) (.tmp 45) 30 27 (.agg #[.int .u8 0, .int .u8 0, .int .u8 0, .int .i64 0, .int .i64 0, .int .i64 0]) 40 rfl Try.underlying30 info27 rfl (by decide) (by omega) u4 out (⟨Go.bits .and .u8 t1 3, t1 / 4, (⟨o1, o2, o3, o4⟩ : S25)⟩ : S27) [.int .u8 (Go.bits .and .u8 t1 3), .int .u8 (t1 / 4), .int .u8 (o1), .int .i64 (o2), .int .i64 (o3), .int .i64 (o4)] (fun _ => True) (fun _ => False) rfl (by first | (go_simp; done) | (go_simp; rfl)) ?aP (fun _ hk => hk.elim) ?aF ?aO ?aB ?aS ?aL ?_; (case aP => exact k27_mkM _ _ _ (⟨Go.bits .and .u8 t1 3, t1 / 4, (⟨o1, o2, o3, o4⟩ : S25)⟩ : S27)); (case aF => exact (fun _ _ => trivial)); (case aO => exact (by (with_reducible repeat (first | apply Kd.R_alloc | apply Kd.R_drewN | apply Kd.R_drew)); exact Kd.R_mono HO.out (fun _ _ => trivial))); (case aB => exact (by repeat (first | (with_reducible first | exact HB.out | apply below_alloc | apply pw_below_drewN | apply below_drew1) | exact HB.out))); (case aS => exact (below_size (by repeat (first | (with_reducible first | exact HB.out | apply below_alloc | apply pw_below_drewN | apply below_drew1) | exact HB.out)))); (case aL => have := LM.out; omega); intro v5_ w5 ho hb hg hat; have n0_ := Aside0.mk ho; have n1_ := Aside0.mk hb; have n2_ := Aside0.mk (IsS53.grown (by repeat (first | (with_reducible first | exact HI.out | apply IsS53.alloc | apply IsS53.drewN | apply IsS53.drew | refine IsS53.far ?_ NG.out _) | exact HI.out)) hg (IsS53.own_ne HI.out HO.out (by decide))); clear HO HB HI; have HO := n0_; have HB := n1_; have HI := n2_; clear n0_ n1_ n2_ ho hb hg hat))
                    go_roundg k1
                    case measure => have := HK1.out; omega
                    case rel => exact ⟨_, bad, o6, rfl, H', ⟨by have := HK1.out; omega⟩, HO, HI, HB⟩
                · rw [if_neg c9] at H
                  exact absurd H (by simp)
          · rw [if_neg c8] at H
            have c8b0 : (Go.bits .and .u8 t1 3 == 0) = false := beq_eq_false_iff_ne.mpr c8
            have c8b1 : (Go.bits .and .u8 t1 3 != 0) = true := bne_iff_ne.mpr c8
            clear c8
            by_cases c9 : out.length < 3518437208883
            · rw [if_pos c9] at H
              have LM := Aside0.mk c9
              clear c9
              have H' := Aside0.mk H
              clear H
              have hcgb0 : World.cell? wc ⟨gb, 0, none⟩ = some (.int .u8 (Go.bits .and .u8 t1 3)) := (blk_cell Bgb.out 0).trans rfl
              have hfgb0 := blk_frozen Bgb.out 0
              have hcgb1 : World.cell? wc ⟨gb, 1, none⟩ = some (.int .u8 (t1 / 4)) := (blk_cell Bgb.out 1).trans rfl
              have hfgb1 := blk_frozen Bgb.out 1
              have hcgb2 : World.cell? wc ⟨gb, 2, none⟩ = some (.int .u8 (0)) := (blk_cell Bgb.out 2).trans rfl
              have hfgb2 := blk_frozen Bgb.out 2
              have hcgb3 : World.cell? wc ⟨gb, 3, none⟩ = some (.int .i64 (0)) := (blk_cell Bgb.out 3).trans rfl
              have hfgb3 := blk_frozen Bgb.out 3
              have hcgb4 : World.cell? wc ⟨gb, 4, none⟩ = some (.int .i64 (0)) := (blk_cell Bgb.out 4).trans rfl
              have hfgb4 := blk_frozen Bgb.out 4
              have hcgb5 : World.cell? wc ⟨gb, 5, none⟩ = some (.int .i64 (0)) := (blk_cell Bgb.out 5).trans rfl
              have hfgb5 := blk_frozen Bgb.out 5

              go_wp2_with (first | ((with_reducible refine gate_builtin (b := .append) (xs := #[.tmp 43, .tmp 45]) rfl ?_); at_builtin; refine Kd.R_append k27 (w0 := w) w.heap.size rfl (.tmp 43) (.tmp 45) 30 27 (.agg #[.int .u8 0, .int .u8 0, .int .u8 0, .int .i64 0, .int .i64 0, .int .i64 0]) 40 rfl Try.underlying30 info27 rfl (by decide) (by omega) u4 out (⟨Go.bits .and .u8 t1 3, t1 / 4, (⟨0, 0, 0, 0⟩ : S25)⟩ : S27) [.int .u8 (Go.bits .and .u8 t1 3), .int .u8 (t1 / 4), .int .u8 (0), .int .i64 (0), .int .i64 (0), .int .i64 (0)] (fun _ => True) (fun _ => False) rfl (by first | (go_simp; done) | (go_simp; rfl)) ?aP (fun _ hk => hk.elim) ?aF ?aO ?aB ?aS ?aL ?_; (case aP => exact k27_mkM _ _ _ (⟨Go.bits .and .u8 t1 3, t1 / 4, (⟨0, 0, 0, 0⟩ : S25)⟩ : S27)); (case aF => exact (fun _ _ => trivial)); (case aO => exact (by (with_reducible repeat (first | apply Kd.R_alloc | apply Kd.R_drewN | apply Kd.R_drew)); exact Kd.R_mono HO.out (fun _ _ => trivial))); (case aB => exact (by repeat (first | (with_reducible first | exact HB.out | apply below_alloc | apply pw_below_drewN | apply below_drew1) | exact HB.out))); (case aS => exact (below_size (by repeat (first | (with_reducible first | exact HB.out | apply below_alloc | apply pw_below_drewN | apply below_drew1) | exact HB.out)))); (case aL => have := LM.out; omega); intro v5_ w5 ho hb hg hat; have n0_ := Aside0.mk ho; have n1_ := Aside0.mk hb; have n2_ := Aside0.mk (IsS53.grown (by repeat (first | (with_reducible first | exact HI.out | apply IsS53.alloc | apply IsS53.drewN | apply IsS53.drew | refine IsS53.far ?_ NG.out _) | exact HI.out)) hg (IsS53.own_ne HI.out HO.out (by decide))); clear HO HB HI; have HO := n0_; have HB := n1_; have HI := n2_; clear n0_ n1_ n2_ ho hb hg hat))
              go_roundg k1
              case measure => have := HK1.out; omega
              case rel => exact ⟨_, bad, t3, rfl, H', ⟨by have := HK1.out; omega⟩, HO, HI, HB⟩
            · rw [if_neg c9] at H
              exact absurd H (by simp)

end Go.Proofs.Ytkommjibpeklgaa.PScriptDecodes
