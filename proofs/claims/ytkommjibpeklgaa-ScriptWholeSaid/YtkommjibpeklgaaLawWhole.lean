/- For all bytes the law ScriptWhole answers true: whatever is read may be; as bytes again, and back, it is the same. -/
import Derived.Test.YtkommjibpeklgaaRows
import Derived.Test.YtkommjibpeklgaaGoodScriptWhole
import Derived.WalkKit
import Derived.ProofKit
import Derived.OpenShut
import Derived.ShutString
import Derived.ChangeOld
import Derived.Below
import Derived.SizedLaws
namespace Go.Proofs.Ytkommjibpeklgaa.PScriptWhole
open Go.RowKit Go.Proofs.YtkommjibpeklgaaW.PrintWords Go.Proofs.YtkommjibpeklgaaW.PrintLast Go.Proofs.YtkommjibpeklgaaW.PrintMore
attribute [local go_sem] max2_int min2_int max_two min_two max_three min_three max_four min_four
set_option linter.unusedVariables false
set_option linter.unusedSimpArgs false

set_option maxHeartbeats 2000000 in
set_option maxRecDepth 100000 in
theorem whole_long (k : Nat) (A0 : Option Addr) (c0 : Nat) (l0 : List Int) (w : World) (ha : boscagelaw24_Awake.f k = some true) (hl : 200 < l0.length) :
    Calls Try.prog 8 #[.slice A0 l0.length c0] w fun e w' => e = .returned (.bool true) ∧ Below w.heap.size w w' := by
  have HA := Aside0.mk ha
  clear ha
  have HB := Aside0.mk (Below.refl w.heap.size w)
  have h1 : decide (200 < (l0.length : Int)) = true := decide_eq_true (by omega)
  have h2 : decide (200 < l0.length) = true := decide_eq_true hl
  clear hl
  go_enter Try.func8, Try.ntmps8
  go_wp2_with (first | ((with_reducible refine gate_callee (f := 9) rfl ?_); refine goesL_ (some 10) rfl rfl Try.func9 (by kernel_rfl) rfl #[] rfl (by (try simp only [List.map_toArray, List.map_cons, List.map_nil]); first | done | rfl | (simp only [List.length_drop, List.length_take]; rfl)) ?_; (with_reducible refine (boscagelaw24_Awake.calls k true _ HA.out).mono ?_); rintro e w2 ⟨rfl, hb⟩; refine ⟨_, rfl, ?_⟩; have n1_ := Aside0.mk (below_step (by repeat (first | (with_reducible first | exact HB.out | apply below_alloc | apply pw_below_drewN | apply below_drew1) | exact HB.out)) hb); clear HB; have HB := n1_; clear n1_ hb))
  go_ret
  exact ⟨rfl, by repeat (first | (with_reducible first | exact HB.out | apply below_alloc | apply pw_below_drewN | apply below_drew1) | exact HB.out)⟩

theorem at_mem (l : List S27) (i : Nat) (h : i < l.length) : rd_T27 l (i : Int) ∈ l := by
  have : rd_T27 l (i : Int) = l[i] := by simp [rd_T27, h]
  rw [this]
  exact List.getElem_mem h
theorem wup {i : Nat} (h : i < 3518437208883) : wrap64 ((i : Int) + 1) = ((i + 1 : Nat) : Int) := by
  unfold wrap64
  omega

set_option maxHeartbeats 2000000 in
set_option maxRecDepth 100000 in
theorem whole_short (k : Nat) (A0 : Option Addr) (c0 : Nat) (l0 : List Int) (es : List S27) (bad : Int) (cs : List Int) (w : World) (hr0 : Kd.C (Kd.int .u8) w A0 l0.length l0) (hc0 : l0.length ≤ c0) (ha : boscagelaw24_Awake.f k = some true) (hl : ¬ 200 < l0.length)
    (hd : decL k [] 0 l0 0 = some (es, bad)) (hn : es.length < 1000000) (hr : ∀ s ∈ es, script_Entry_Right.f k s.f0 s.f1 s.f2.f0 s.f2.f1 s.f2.f2 s.f2.f3 = some true) (he : script_Encode.f k es = some cs) (hd2 : decL k [] 0 cs 0 = some (es, 0)) (hs : boscagelaw24_Same.f k es es = some true) (hcs : cs.length ≤ l0.length) :
    Calls Try.prog 8 #[.slice A0 l0.length c0] w fun e w' => e = .returned (.bool true) ∧ Below w.heap.size w w' := by
  have hu27 := Try.underlying27
  have hu25 := Try.underlying25
  have HA := Aside0.mk ha
  have HD := Aside0.mk hd
  have HN := Aside0.mk hn
  have HR := Aside0.mk hr
  have HE := Aside0.mk he
  have HD2 := Aside0.mk hd2
  have HS := Aside0.mk hs
  have HCS := Aside0.mk hcs
  have HC := Aside0.mk hr0
  have HC0 := Aside0.mk hc0
  clear ha hd hn hr he hd2 hs hcs hr0 hc0
  have HB := Aside0.mk (Below.refl w.heap.size w)
  have h1 : decide (200 < (l0.length : Int)) = false := decide_eq_false (by omega)
  have h2 : decide (200 < l0.length) = false := decide_eq_false hl
  clear hl
  go_enter Try.func8, Try.ntmps8
  go_upto_region 6 with (first | ((with_reducible refine gate_callee (f := 9) rfl ?_); refine goesL_ (some 10) rfl rfl Try.func9 (by kernel_rfl) rfl #[] rfl (by (try simp only [List.map_toArray, List.map_cons, List.map_nil]); first | done | rfl | (simp only [List.length_drop, List.length_take]; rfl)) ?_; (with_reducible refine (boscagelaw24_Awake.calls k true _ HA.out).mono ?_); rintro e w2 ⟨rfl, hb⟩; refine ⟨_, rfl, ?_⟩; have n1_ := Aside0.mk (below_step (by repeat (first | (with_reducible first | exact HB.out | apply below_alloc | apply pw_below_drewN | apply below_drew1) | exact HB.out)) hb); clear HB; have HB := n1_; clear n1_ hb) | ((with_reducible refine gate_callee (f := 16) rfl ?_); refine goesL_ (some 17) rfl rfl Try.func16 (by kernel_rfl) rfl #[.slice A0 l0.length c0] rfl (by (try simp only [List.map_toArray, List.map_cons, List.map_nil]); first | done | rfl | (simp only [List.length_drop, List.length_take]; rfl)) ?_; (with_reducible refine (decode_calls k A0 c0 l0 es bad _ ?sideC ?sideL HD.out).mono ?_); (case sideC => exact Kd.C_below HC.out (by repeat (first | (with_reducible first | exact HB.out | apply below_alloc | apply pw_below_drewN | apply below_drew1) | exact HB.out))); (case sideL => exact HC0.out); rintro e w2 ⟨v0_, rfl, ho, hb⟩; refine ⟨_, rfl, ?_⟩; have HO := Aside0.mk (Kd.R_lower ho (below_size (by repeat (first | (with_reducible first | exact HB.out | apply below_alloc | apply pw_below_drewN | apply below_drew1) | exact HB.out))));  have n1_ := Aside0.mk (below_step (by repeat (first | (with_reducible first | exact HB.out | apply below_alloc | apply pw_below_drewN | apply below_drew1) | exact HB.out)) hb); clear HB; have HB := n1_; clear n1_ hb ho))
  obtain ⟨Ao, co, eo⟩ := Kd.R_slice HO.out
  subst eo
  go_wp2_with fail
  go_loopg [22] es.length (fun kq v22 w' => ∃ i : Nat, i + kq = es.length ∧ v22 = .int .i64 (i : Int) ∧ Aside0 (Kd.R k27 27 w' w.heap.size (fun k_ => True) (.slice Ao es.length co) es) ∧ Aside0 (Below w.heap.size w w'))
  case atStart => exact ⟨0, by omega, rfl, ⟨by ((with_reducible repeat (first | apply Kd.R_alloc | apply Kd.R_drewN | apply Kd.R_drew)); exact HO.out)⟩, ⟨by repeat (first | (with_reducible first | exact HB.out | apply below_alloc | apply pw_below_drewN | apply below_drew1) | exact HB.out)⟩⟩
  case round =>
    clear HB HO
    obtain ⟨i, hik, rfl, HO, HB⟩ := hrel
    have HK1 := Aside0.mk hik
    clear hik
    cases gk with
    | zero =>
      have hlt : decide ((i : Int) < (es.length : Int)) = false := decide_eq_false (by have := HK1.out; omega)
      have hlt' : decide (i < es.length) = false := decide_eq_false (by have := HK1.out; omega)
      go_upto_region 14 with (first | ((with_reducible refine gate_callee (f := 14) rfl ?_); refine goesL_ (some 31) rfl rfl Try.func14 (by kernel_rfl) rfl #[.slice Ao es.length co] rfl (by (try simp only [List.map_toArray, List.map_cons, List.map_nil]); first | done | rfl | (simp only [List.length_drop, List.length_take]; rfl)) ?_; (with_reducible refine (script_Encode.calls k Ao co es cs _ ?sideC ?sideL HE.out).mono ?_); (case sideC => exact (Kd.R_reads' (by ((with_reducible repeat (first | apply Kd.R_alloc | apply Kd.R_drewN | apply Kd.R_drew)); exact HO.out) : Kd.R k27 27 _ w.heap.size (fun k_ => True) (.slice Ao es.length co) es)).2.2); (case sideL => exact (Kd.R_reads' HO.out).2.1); rintro e w2 ⟨v0_, rfl, ho, hb⟩; refine ⟨_, rfl, ?_⟩; have HP := Aside0.mk (Kd.R_lower ho (below_size (by repeat (first | (with_reducible first | exact HB.out | apply below_alloc | apply pw_below_drewN | apply below_drew1) | exact HB.out)))); have n0_ := Aside0.mk (Kd.R_below (by ((with_reducible repeat (first | apply Kd.R_alloc | apply Kd.R_drewN | apply Kd.R_drew)); exact HO.out)) hb); have n1_ := Aside0.mk (below_step (by repeat (first | (with_reducible first | exact HB.out | apply below_alloc | apply pw_below_drewN | apply below_drew1) | exact HB.out)) hb); clear HB HO; have HB := n1_; have HO := n0_; clear n1_ n0_ hb ho; obtain ⟨Ap, cp, ep⟩ := Kd.R_slice HP.out; subst ep) | ((with_reducible refine gate_callee (f := 16) rfl ?_); refine goesL_ (some 34) rfl rfl Try.func16 (by kernel_rfl) rfl #[.slice Ap cs.length cp] rfl (by (try simp only [List.map_toArray, List.map_cons, List.map_nil]); first | done | rfl | (simp only [List.length_drop, List.length_take]; rfl)) ?_; (with_reducible refine (decode_calls k Ap cp cs es 0 _ ?sideC ?sideL HD2.out).mono ?_); (case sideC => exact (Kd.R_reads' HP.out).2.2); (case sideL => exact (Kd.R_reads' HP.out).2.1); rintro e w2 ⟨v0_, rfl, ho, hb⟩; refine ⟨_, rfl, ?_⟩; have HQ := Aside0.mk (Kd.R_lower ho (below_size (by repeat (first | (with_reducible first | exact HB.out | apply below_alloc | apply pw_below_drewN | apply below_drew1) | exact HB.out)))); have n0_ := Aside0.mk (Kd.R_below (by ((with_reducible repeat (first | apply Kd.R_alloc | apply Kd.R_drewN | apply Kd.R_drew)); exact HO.out)) hb); have n1_ := Aside0.mk (below_step (by repeat (first | (with_reducible first | exact HB.out | apply below_alloc | apply pw_below_drewN | apply below_drew1) | exact HB.out)) hb); clear HB HO HP; have HB := n1_; have HO := n0_; clear n1_ n0_ hb ho; obtain ⟨Aq, cq, eq_⟩ := Kd.R_slice HQ.out; subst eq_))
      have hle : decide ((cs.length : Int) ≤ (l0.length : Int)) = true := decide_eq_true (by have := HCS.out; omega)
      have hle' : decide (cs.length ≤ l0.length) = true := decide_eq_true HCS.out
      go_wp2_with (first | ((with_reducible refine gate_callee (f := 18) rfl ?_); refine goesL_ (some 39) rfl rfl Try.func18 (by kernel_rfl) rfl #[.slice Aq es.length cq, .slice Ao es.length co] rfl (by (try simp only [List.map_toArray, List.map_cons, List.map_nil]); first | done | rfl | (simp only [List.length_drop, List.length_take]; rfl)) ?_; (with_reducible refine (boscagelaw24_Same.calls k Aq cq es Ao co es true _ ?s1 ?s2 ?s3 ?s4 HS.out).mono ?_); (case s1 => exact (Kd.R_reads' HQ.out).2.2); (case s2 => exact (Kd.R_reads' HQ.out).2.1); (case s3 => exact (Kd.R_reads' HO.out).2.2); (case s4 => exact (Kd.R_reads' HO.out).2.1); rintro e w2 ⟨rfl, ⟨nd, rfl⟩⟩; refine ⟨_, rfl, ?_⟩))
      go_ret
      exact ⟨rfl, by repeat (first | (with_reducible first | exact HB.out | apply below_alloc | apply pw_below_drewN | apply below_drew1) | exact HB.out)⟩
    | succ k1 =>
      have Hi := Aside0.mk (show i < es.length by have := HK1.out; omega)
      have hlt : decide ((i : Int) < (es.length : Int)) = true := decide_eq_true (by have := Hi.out; omega)
      have hlt' : decide (i < es.length) = true := decide_eq_true Hi.out
      have p178 : 0 ≤ (i : Int) := by omega
      have q178 : (i : Int) < (es.length : Int) := by have := Hi.out; omega
      obtain ⟨ad178, e178, hx178_0, hx178_1, hx178_2, hx178_3, hx178_4, hx178_5⟩ := at_T27 (Kd.R_reads' HO.out).2.2 (i : Int) p178 q178
      cases e178
      simp only [Int.toNat_natCast] at hx178_0 hx178_1 hx178_2 hx178_3 hx178_4 hx178_5
      obtain ⟨s, hs⟩ : ∃ s, s = rd_T27 es (i : Int) := ⟨_, rfl⟩
      rw [← hs] at hx178_0 hx178_1 hx178_2 hx178_3 hx178_4 hx178_5
      have HsR := Aside0.mk (show script_Entry_Right.f k s.f0 s.f1 s.f2.f0 s.f2.f1 s.f2.f2 s.f2.f3 = some true from HR.out _ (by rw [hs]; exact at_mem es i Hi.out))
      clear hs
      replace p178 := eq_true p178
      replace q178 := eq_true q178
      go_upto_region 8 with (fail)
      go_cut [6] (fun v6 wc => ∃ gb : Nat, v6 = .pointer (some ⟨gb, 0, none⟩) ∧ Aside0 (w.heap.size ≤ gb) ∧ Aside0 (wc.heap[gb]? = some (.cells #[.int .u8 (s.f0), .int .u8 (s.f1), .int .u8 (s.f2.f0), .int .i64 (s.f2.f1), .int .i64 (s.f2.f2), .int .i64 (s.f2.f3)] 27 (0, 0))) ∧ Aside0 (Kd.R k27 27 wc w.heap.size (fun k_ => True) (.slice (some ad178) es.length co) es) ∧ Aside0 (Below w.heap.size w wc))
      case first =>
        go_wp2_with (first | ((with_reducible refine gate_dst (N := 6) rfl ?_); refine box_event ?hg (N := 6) ?hd (cs := #[.int .u8 0, .int .u8 0, .int .u8 0, .int .i64 0, .int .i64 0, .int .i64 0]) (t := 27) ?hr ?_; (case hd => rfl); (case hg => rfl); (case hr => first | (go_simp; done) | (go_simp; rfl)); intro gb hg wb hbox hb; have n0_ := Aside0.mk (Kd.R_below (Kd.R_mono (Kd.R_elderB (by ((with_reducible repeat (first | apply Kd.R_alloc | apply Kd.R_drewN | apply Kd.R_drew)); exact HO.out)) gb (Nat.le_of_eq hg.symm)) (fun _ h => h.2)) hb); have n1_ := Aside0.mk (below_step (by repeat (first | (with_reducible first | exact HB.out | apply below_alloc | apply pw_below_drewN | apply below_drew1) | exact HB.out)) hb); have Ggb := Aside0.mk ((by rw [hg]; exact (below_size (by repeat (first | (with_reducible first | exact HB.out | apply below_alloc | apply pw_below_drewN | apply below_drew1) | exact HB.out)))) : w.heap.size ≤ gb); clear HO HB; have HO := n0_; have HB := n1_; have Bgb := Aside0.mk hbox; clear n0_ n1_ hb hbox hg; have hz0 : wb.cell? ⟨gb, 0, none⟩ = some (.int .u8 0) := (blk_cell Bgb.out 0).trans rfl; have hy0 := blk_frozen Bgb.out 0; have hz1 : wb.cell? ⟨gb, 1, none⟩ = some (.int .u8 0) := (blk_cell Bgb.out 1).trans rfl; have hy1 := blk_frozen Bgb.out 1; have hz2 : wb.cell? ⟨gb, 2, none⟩ = some (.int .u8 0) := (blk_cell Bgb.out 2).trans rfl; have hy2 := blk_frozen Bgb.out 2; have hz3 : wb.cell? ⟨gb, 3, none⟩ = some (.int .i64 0) := (blk_cell Bgb.out 3).trans rfl; have hy3 := blk_frozen Bgb.out 3; have hz4 : wb.cell? ⟨gb, 4, none⟩ = some (.int .i64 0) := (blk_cell Bgb.out 4).trans rfl; have hy4 := blk_frozen Bgb.out 4; have hz5 : wb.cell? ⟨gb, 5, none⟩ = some (.int .i64 0) := (blk_cell Bgb.out 5).trans rfl; have hy5 := blk_frozen Bgb.out 5))
        go_meet
        exact ⟨gb, rfl, Ggb, ⟨by (with_reducible repeat (first | refine blk_drewN ?_ _ | refine blk_drew ?_ | refine blk_alloc ?_ _)); refine blk_put (cs := #[.int .u8 (s.f0), .int .u8 (s.f1), .int .u8 (s.f2.f0), .int .i64 (s.f2.f1), .int .i64 (s.f2.f2), .int .i64 (0)]) ?_ 5 _ rfl; (with_reducible repeat (first | refine blk_drewN ?_ _ | refine blk_drew ?_ | refine blk_alloc ?_ _)); refine blk_put (cs := #[.int .u8 (s.f0), .int .u8 (s.f1), .int .u8 (s.f2.f0), .int .i64 (s.f2.f1), .int .i64 (0), .int .i64 (0)]) ?_ 4 _ rfl; (with_reducible repeat (first | refine blk_drewN ?_ _ | refine blk_drew ?_ | refine blk_alloc ?_ _)); refine blk_put (cs := #[.int .u8 (s.f0), .int .u8 (s.f1), .int .u8 (s.f2.f0), .int .i64 (0), .int .i64 (0), .int .i64 (0)]) ?_ 3 _ rfl; (with_reducible repeat (first | refine blk_drewN ?_ _ | refine blk_drew ?_ | refine blk_alloc ?_ _)); refine blk_put (cs := #[.int .u8 (s.f0), .int .u8 (s.f1), .int .u8 (0), .int .i64 (0), .int .i64 (0), .int .i64 (0)]) ?_ 2 _ rfl; (with_reducible repeat (first | refine blk_drewN ?_ _ | refine blk_drew ?_ | refine blk_alloc ?_ _)); refine blk_put (cs := #[.int .u8 (s.f0), .int .u8 (0), .int .u8 (0), .int .i64 (0), .int .i64 (0), .int .i64 (0)]) ?_ 1 _ rfl; (with_reducible repeat (first | refine blk_drewN ?_ _ | refine blk_drew ?_ | refine blk_alloc ?_ _)); refine blk_put (cs := #[.int .u8 (0), .int .u8 (0), .int .u8 (0), .int .i64 (0), .int .i64 (0), .int .i64 (0)]) ?_ 0 _ rfl; (with_reducible repeat (first | refine blk_drewN ?_ _ | refine blk_drew ?_ | refine blk_alloc ?_ _)); exact Bgb.out⟩, ⟨Kd.R_mono (by exact Kd.R_far (p := ⟨gb, _, none⟩) (Kd.R_far (p := ⟨gb, _, none⟩) (Kd.R_far (p := ⟨gb, _, none⟩) (Kd.R_far (p := ⟨gb, _, none⟩) (Kd.R_far (p := ⟨gb, _, none⟩) (Kd.R_far (p := ⟨gb, _, none⟩) (HO.out) (fun _ hk => hk) _) (fun _ hk => hk) _) (fun _ hk => hk) _) (fun _ hk => hk) _) (fun _ hk => hk) _) (fun _ hk => hk) _) (fun _ _ => trivial)⟩, ⟨by repeat (first | (with_reducible first | exact HB.out | apply below_alloc | apply pw_below_drewN | apply below_drew1 | refine below_set ?_ Ggb.out) | exact HB.out)⟩⟩
      case rest =>
        clear hx178_0 hx178_1 hx178_2 hx178_3 hx178_4 hx178_5 HO HB
        obtain ⟨gb, rfl, Ggb, Bgb, HO, HB⟩ := hcut
        have hcgb0 : World.cell? _ ⟨gb, 0, none⟩ = some (.int .u8 (s.f0)) := (blk_cell Bgb.out 0).trans rfl
        have hfgb0 := blk_frozen Bgb.out 0
        have hcgb1 : World.cell? _ ⟨gb, 1, none⟩ = some (.int .u8 (s.f1)) := (blk_cell Bgb.out 1).trans rfl
        have hfgb1 := blk_frozen Bgb.out 1
        have hcgb2 : World.cell? _ ⟨gb, 2, none⟩ = some (.int .u8 (s.f2.f0)) := (blk_cell Bgb.out 2).trans rfl
        have hfgb2 := blk_frozen Bgb.out 2
        have hcgb3 : World.cell? _ ⟨gb, 3, none⟩ = some (.int .i64 (s.f2.f1)) := (blk_cell Bgb.out 3).trans rfl
        have hfgb3 := blk_frozen Bgb.out 3
        have hcgb4 : World.cell? _ ⟨gb, 4, none⟩ = some (.int .i64 (s.f2.f2)) := (blk_cell Bgb.out 4).trans rfl
        have hfgb4 := blk_frozen Bgb.out 4
        have hcgb5 : World.cell? _ ⟨gb, 5, none⟩ = some (.int .i64 (s.f2.f3)) := (blk_cell Bgb.out 5).trans rfl
        have hfgb5 := blk_frozen Bgb.out 5

        go_wp2_with (first | ((with_reducible refine gate_callee (f := 10) rfl ?_); refine goesL_ (some 27) rfl rfl Try.func10 (by kernel_rfl) rfl #[.agg #[.int .u8 (s.f0), .int .u8 (s.f1), .int .u8 (s.f2.f0), .int .i64 (s.f2.f1), .int .i64 (s.f2.f2), .int .i64 (s.f2.f3)]] rfl (by (try simp only [List.map_toArray, List.map_cons, List.map_nil]); first | done | rfl | (simp only [List.length_drop, List.length_take]; rfl)) ?_; (with_reducible refine (script_Entry_Right.calls k s.f0 s.f1 s.f2.f0 s.f2.f1 s.f2.f2 s.f2.f3 true _ HsR.out).mono ?_); rintro e w2 ⟨rfl, hb⟩; refine ⟨_, rfl, ?_⟩; have n0_ := Aside0.mk (Kd.R_below (by ((with_reducible repeat (first | apply Kd.R_alloc | apply Kd.R_drewN | apply Kd.R_drew)); exact HO.out)) hb); have n1_ := Aside0.mk (below_step (by repeat (first | (with_reducible first | exact HB.out | apply below_alloc | apply pw_below_drewN | apply below_drew1) | exact HB.out)) hb); clear HB HO; have HB := n1_; have HO := n0_; clear n1_ n0_ hb))
        go_roundg k1
        case measure => have := HK1.out; omega
        case rel => exact ⟨i + 1, by have := HK1.out; omega, congrArg (Value.int .i64) (wup (by have := HN.out; have := Hi.out; omega)), ⟨by ((with_reducible repeat (first | apply Kd.R_alloc | apply Kd.R_drewN | apply Kd.R_drew)); exact HO.out)⟩, ⟨by repeat (first | (with_reducible first | exact HB.out | apply below_alloc | apply pw_below_drewN | apply below_drew1) | exact HB.out)⟩⟩
end Go.Proofs.Ytkommjibpeklgaa.PScriptWhole

namespace Go.Proofs.Ytkommjibpeklgaa.scriptWhole
open Go.ChangeShapes Go.WideShapes Go.ChangeAt Go.RowKit Go.Proofs.Ytkommjibpeklgaa.PScriptWhole Go.Proofs.Ytkommjibpeklgaa.Pure.EncScriptWhole
open Go.ChangeMaps (open_string shut_string)
open Go.Proofs.YtkommjibpeklgaaW.PrintWords (Kd ReadsInt.ofRowC Kd.C_of_reads)
set_option linter.unusedVariables false

theorem holds (A0 : Option Addr) (c0 : Nat) (l0 : List Int) (w : World) (hr0 : Kd.C (Kd.int .u8) w A0 l0.length l0) (hc0 : l0.length ≤ c0) (hb : IsBytes l0) :
    Calls Try.prog 8 #[.slice A0 l0.length c0] w fun e w' => e = .returned (.bool true) ∧ Below w.heap.size w w' := by
  have ha := awakes 20000 (by omega)
  by_cases hl : 200 < l0.length
  · exact whole_long 20000 A0 c0 l0 w ha hl
  · have hd := decode_eq 20000 l0 (by omega) (by omega) hb
    obtain ⟨g1, g2, g3⟩ := dec_good l0.length l0 hb
    rcases he : dec l0.length l0 with ⟨es, bad⟩
    rw [he] at hd g1 g2 g3
    simp only at g1 g2 g3
    have hw := wrote_bytes g1
    have hd2 := decode_eq 20000 (wrote es) (by omega) (by omega) hw
    rw [back es g1] at hd2
    exact whole_short 20000 A0 c0 l0 es bad (wrote es) w hr0 hc0 ha hl hd (by omega) (fun s hs => by rw [right_eq' _ (by omega) _ _ _ _ _ _ (g1 s hs).k0, (g1 s hs).may])
      (encode_eq _ es (fun s hs => (g1 s hs).k0) (by omega) (by omega)) hd2 (same_refl _ es (by omega) (by omega)) (by omega)

theorem own : ownKnob Try.prog.godebug = none := by kernel_rfl
theorem laidOut : laidOutB Try.prog = true := by kernel_rfl
def IsRow (k : IntKind) (w : World) (a : Option Addr) (len cap : Nat) (zs : List Int) : Prop :=
  (a = none ∧ len = 0 ∧ cap = 0 ∧ zs = []) ∨
  ∃ x, a = some x ∧ len ≤ cap ∧ cap ≤ maxLen ∧ zs.length = cap ∧ (∀ i, i < zs.length → w.cell? (x.add i) = some (.int k (zs.getD i 0))) ∧ ∀ n ∈ zs, (Lit.int k n).wf = true

set_option maxRecDepth 100000 in
theorem lifted (os : Os) (started : os.Started) (H : Type) (enc : TypeId × Value → H) :
    ReturnsInHanded {} Try.checked os 8 .any (Rows.scriptWholeSpec.pre6 enc Try.prog Try.f8 Rows.scriptWholeRow.domain false) (Rows.scriptWholeSpec.post enc Try.prog Try.f8 false true false false) := by
  refine returnsInHanded_of_change_sized (C := Try.checked) own started (by kernel_rfl) Try.func8
    (ChangeSpec.witness6 (enc := enc) (C := Try.checked) false ⟨#[], #[.slice none 0 0], []⟩ 8 (by kernel_rfl) (by kernel_rfl) (by kernel_rfl) (by kernel_rfl)) ?_
  intro W base args ds gs before hval0 hW hcnd hsz0 _
  have hval : ∀ (j : Nat) t v, Try.f8.params[j]? = some t → args[j]? = some v → Value.okWide Try.prog W .any base t v := hval0
  have hW' := hW
  obtain ⟨p, q, hA0, hV, rfl, hfz, hnd⟩ := hW
  have hA : DataW.TrodAll enc Try.prog W 0 (fun _ => true) true Try.f8.params.toList args.toList ds p := hA0
  rw [Try.params8] at hA hval
  obtain ⟨v0, vs0, d0, ds0, p0, q0, hargs, rfl, rfl, h0, r0⟩ := trodAll_cons hA
  obtain ⟨rfl, rfl, rfl⟩ := trodAll_nil r0
  obtain rfl : args = #[v0] := by cases args; simp_all
  obtain ⟨rfl, rfl⟩ := trodVars_none hV
  obtain ⟨a0, len0, cap0, rfl⟩ := okWide_slice Try.underlying33 (hval 0 33 v0 rfl rfl)
  have k0 := h0
  have lt0 : ∀ x ∈ p0, x.block < W.heap.size := by obtain ⟨m, hm⟩ := k0; exact DataW.trod_lt m _ _ _ hm
  obtain ⟨z0, w0⟩ : ∃ zs, IsRow .u8 W a0 len0 cap0 zs := by
    obtain ⟨fuel, hf⟩ := h0
    rcases open_ints Try.underlying33 Try.underlying5 (by kernel_rfl) hf with ⟨hcs, _⟩ | ⟨x, l, c, zs, hcs, _, hl, hm, hz, _, hcell, hwz⟩
    · simp [Value.cells] at hcs
      obtain ⟨rfl, rfl, rfl⟩ := hcs
      exact ⟨[], .inl ⟨rfl, rfl, rfl, rfl⟩⟩
    · simp [Value.cells] at hcs
      obtain ⟨rfl, rfl, rfl⟩ := hcs
      exact ⟨zs, .inr ⟨_, rfl, hl, hm, by simpa using hz, hcell, hwz⟩⟩
  obtain ⟨l0, rfl, hr0, hm0, hw0, hc0⟩ := ReadsInt.ofRowC w0
  have hb0 : IsBytes l0 := fun c hc => by
    have := hw0 c hc
    simpa [Lit.wf, IntKind.min, IntKind.max, IntKind.bits, IntKind.signed] using this
  clear hA0 hval0 hsz0
  refine (holds a0 cap0 l0 W (Kd.C_of_reads (d := (0 : Int)) (h1 := fun _ => rfl) hr0) hc0 hb0).mono fun e W' ⟨he, bel⟩ => ?_
  subst he
  exact ⟨_, rfl, _, _, _, [], _, [], hW', trodAll_mk1 (shut_bool Try.underlying4 _), (trodAll_cons_mk (Below.trod laidOut (by kernel_rfl) (of_decide_eq_true (by kernel_rfl)) k0 bel lt0) trodAll_mk0), rfl, bel.frame _, fun h => by cases h⟩
theorem over : Rows.scriptWholeRow.holds Try.pinned (OpenSpec.ofChange Rows.scriptWholeSpec) :=
  OpenClaim.holds_of_wide 8 Try.f8 rfl rfl rfl rfl rfl rfl rfl ⟨rfl, rfl, rfl, rfl, rfl⟩ rfl rfl rfl rfl rfl (by kernel_rfl) Try.func8 (by kernel_rfl)
    (of_decide_eq_true (by kernel_rfl)) (by unfold Func.isWrapper; first | (rw [if_pos (by decide +kernel)]; kernel_rfl) | (rw [if_neg (by decide +kernel)]; exact ⟨rfl, rfl⟩))
    (fun os started H enc _ => lifted os started H enc)
theorem proved : Rows.ScriptWholeSaid := over
#print axioms proved
end Go.Proofs.Ytkommjibpeklgaa.scriptWhole
namespace Go.Proofs.Ytkommjibpeklgaa
/-- The row, under a short name, for the claim. -/
theorem scriptWhole_holds : Rows.ScriptWholeSaid := scriptWhole.proved
end Go.Proofs.Ytkommjibpeklgaa
