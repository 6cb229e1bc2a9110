/- The law's own Decode tells what the words of Spec tell: a walk. -/
import Derived.Test.YtkommjibpeklgaaMScriptDecodesx8
import Derived.Test.YtkommjibpeklgaaLawReadScriptDecodes
namespace Go.Proofs.Ytkommjibpeklgaa.PScriptDecodes
open Go.RowKit Go.Proofs.YtkommjibpeklgaaW.PrintWords Go.Proofs.YtkommjibpeklgaaW.PrintLast Go.Proofs.YtkommjibpeklgaaW.PrintMore
open Go.Proofs.Ytkommjibpeklgaa.Pure.EncScriptDecodes (dec one? num? nums? count opOf IsBytes manyL manyL_eq toldL read_told opL_eq nums_len nums?_none nums?_snoc num?_len num?_suffix)
attribute [local go_sem] max2_int min2_int max_two min_two max_three min_three max_four min_four
set_option linter.unusedVariables false
set_option linter.unusedSimpArgs false
def T4 : Bool × List (List Nat × List Nat) := (true, [([], []), ([0], [0]), ([1], [1]), ([2], [2]), ([], []), ([4], [4]), ([5], [5]), ([6], [6]), ([3, 7], [3, 7]), ([], []), ([9, 8, 0, 1, 2, 3, 4, 5, 6, 7, 8, 9], [8, 9])])
def B4 : List Nat := [0, 1, 3, 7, 0, 16, 48, 112, 255, 0, 1023]
theorem tab4 : rtab .any (opsOf Try.f17 4) = T4 := by kernel_rfl
theorem bits4 : waitsOk T4.2 B4 = true := by kernel_rfl
def T19 : Bool × List (List Nat × List Nat) := (true, [([], []), ([], []), ([1], [1]), ([0, 2], [0, 2]), ([], []), ([], []), ([4, 5], [4, 5]), ([3, 3, 0, 1, 2, 3], [0, 3]), ([6, 7, 0, 1, 2, 3, 4, 5, 6, 7], [4, 6])])
def B19 : List Nat := [0, 0, 2, 7, 0, 0, 48, 15, 255]
theorem tab19 : rtab .any (opsOf Try.f17 19) = T19 := by kernel_rfl
theorem bits19 : waitsOk T19.2 B19 = true := by kernel_rfl
theorem hi5 : Try.prog.info? 5 = some ((Try.prog.info? 5).get (by kernel_rfl)) := by kernel_rfl

set_option maxHeartbeats 4000000 in
set_option maxRecDepth 100000 in
theorem lawDecode_calls (A0 : Option Addr) (c0 : Nat) (l0 : List Int) (w : World) (hr0 : Kd.C (Kd.int .u8) w A0 l0.length l0) (hc0 : l0.length ≤ c0) (hb : IsBytes l0) (hl : l0.length ≤ 100000) :
    Calls Try.prog 17 #[.slice A0 l0.length c0] w fun e w' => ∃ v0_ : Value, e = .returned (.tuple #[v0_, .int .i64 (dec l0.length l0).2]) ∧ Kd.R k27 27 w' w.heap.size (fun _ => True) v0_ (dec l0.length l0).1 ∧ Below w.heap.size w w' := by
  have hu27 := Try.underlying27
  have hu25 := Try.underlying25
  obtain ⟨R1, hR1⟩ : ∃ x, x = (dec l0.length l0).1 := ⟨_, rfl⟩
  obtain ⟨R2, hR2⟩ : ∃ x, x = (dec l0.length l0).2 := ⟨_, rfl⟩
  rw [← hR1, ← hR2]
  have HR1 := Aside0.mk hR1
  have HR2 := Aside0.mk hR2
  have HC := Aside0.mk hr0
  have HC0 := Aside0.mk hc0
  have HBY := Aside0.mk hb
  have HL := Aside0.mk hl
  clear hr0 hc0 hb hl hR1 hR2
  have HB := Aside0.mk (Below.refl w.heap.size w)
  go_enter Try.func17, Try.ntmps17
  go_wp2
  go_loopg [0, 4, 5] l0.length (fun kq v0 v4 v5 w' => ∃ (A : Option Addr) (cap : Nat) (xs : List Int) (out : List S27) (bad : Int), v0 = .slice A xs.length cap ∧ v5 = .int .i64 bad ∧ Aside0 (xs.length ≤ cap ∧ xs.length ≤ kq ∧ kq ≤ l0.length) ∧ Aside0 (Kd.C (Kd.int .u8) w A xs.length xs) ∧ Aside0 (IsBytes xs) ∧ Aside0 (R1 = out ++ (dec kq xs).1 ∧ R2 = bad + (dec kq xs).2 ∧ out.length + kq ≤ l0.length ∧ 0 ≤ bad ∧ bad + kq ≤ l0.length) ∧ Aside0 (Kd.R k27 27 w' w.heap.size (fun _ => True) v4 out) ∧ Aside0 (Below w.heap.size w w'))
  case atStart => exact ⟨A0, c0, l0, [], 0, rfl, rfl, ⟨HC0.out, Nat.le_refl _, Nat.le_refl _⟩, HC, HBY, ⟨by simpa using HR1.out, by simpa using HR2.out, by simp, by omega, by omega⟩, ⟨Kd.R_nil _ _ _ _ _⟩, HB⟩
  case round =>
    clear HB HC HC0 HBY
    obtain ⟨A, cap, xs, out, bad, rfl, rfl, HK, HC, HBY, HQ, HO, HB⟩ := hrel
    cases xs with
    | nil =>
      have hlt : decide ((0 : Int) < 0) = false := rfl
      have HE := Aside0.mk (show R1 = out ∧ R2 = bad from by have h := HQ.out; rw [show dec gk [] = ([], 0) from by cases gk <;> rfl] at h; exact ⟨by simpa using h.1, by simpa using h.2.1⟩)
      go_wp2
      go_ret2
      obtain ⟨rfl, rfl⟩ := HE.out
      exact ⟨_, rfl, by ((with_reducible repeat (first | apply Kd.R_alloc | apply Kd.R_drewN | apply Kd.R_drew)); exact HO.out), by repeat (first | (with_reducible first | exact HB.out | apply below_alloc | apply pw_below_drewN | apply below_drew1) | exact HB.out)⟩
    | cons c r =>
      obtain ⟨k1, rfl⟩ : ∃ m, gk = m + 1 := ⟨gk - 1, by have := HK.out.2.1; simp only [List.length_cons] at this; omega⟩
      obtain ⟨ad, e_, hx0⟩ := Kd.at_int HC.out 0 (by omega) (by simp only [List.length_cons]; omega)
      cases e_
      have hx : World.cell? _ ad = some (.int .u8 c) := (HB.out.cell (World.block_lt_of_cell? w _ (by simpa [rd, Addr.add_zero'] using hx0))).trans (by simpa [rd, Addr.add_zero'] using hx0)
      have HX := Aside0.mk (World.block_lt_of_cell? w ad (by simpa [rd, Addr.add_zero'] using hx0 : w.cell? ad = some (.int .u8 c)))
      clear hx0
      have hlt : decide ((0 : Int) < ((c :: r).length : Int)) = true := decide_eq_true (by simp only [List.length_cons]; omega)
      have hlt' : decide (0 < (c :: r).length) = true := decide_eq_true (by simp)
      have hl0 : (0 < (c :: r).length) = True := eq_true (by simp)
      obtain ⟨n0, hn0⟩ : ∃ n0, n0 = (c :: r).length := ⟨_, rfl⟩
      rw [← hn0] at hlt hlt' hl0
      have HN0 := Aside0.mk hn0
      go_upto_region 4 with (fail)
      go_cut [6] (fun v6 wc => ∃ gb : Nat, v6 = .pointer (some ⟨gb, 0, none⟩) ∧ Aside0 (w.heap.size ≤ gb) ∧ Aside0 (wc.heap[gb]? = some (.cells #[.int .u8 (Int.tmod c 4), .int .u8 ((Int.tdiv c 4) % 256), .int .u8 (0), .int .i64 (0), .int .i64 (0), .int .i64 (0)] 27 (0, 0))) ∧ Aside0 (Kd.R k27 27 wc w.heap.size (fun k_ => k_ ≠ gb) u4 out) ∧ Aside0 (Below w.heap.size w wc))
      case first =>
        have n1_ := Aside0.mk (Kd.R_drew HO.out)
        have n2_ := Aside0.mk (below_drew1 HB.out)
        clear HO HB
        have HO := n1_
        have HB := n2_
        clear n1_ n2_
        refine start_ (n := 11) (S := fun w' => w'.cell? ad = some (.int .u8 c)) (ds := []) #[false, false, false, false, false, false, false, false, false, false, false] (by kernel_rfl) rfl rfl hx (fun hHeld => ?_); refine with_tabW tab4 bits4 (fun HT_ HW_ => ?_)
        generalize wr.drew = w8 at HO HB hHeld ⊢
        refine pure_ (i := 0) (N := some 16) (v := ?_) (a' := ?_) #[true, false, false, false, false, false, false, false, false, false, false] rfl rfl (any_of HT_.out (by kernel_rfl)) (fun _ _ _ h => h) (Or.inl ⟨by rfl, ?_⟩) ?_ ?_
        rotate_left
        · intro w'
          go_simp
          with_reducible rfl
        rotate_left
        · simp only [Act.put, List.setIfInBounds_toArray, List.set_cons_zero, List.set_cons_succ, i64_w, i32_w]
          rfl
        refine pure_ (i := 1) (N := some 17) (v := ?_) (a' := ?_) #[true, true, false, false, false, false, false, false, false, false, false] rfl rfl (any_of HT_.out (by kernel_rfl)) (fun _ _ _ h => h) (Or.inl ⟨by rfl, ?_⟩) ?_ ?_
        rotate_left
        · intro w'
          go_simp
          with_reducible rfl
        rotate_left
        · simp only [Act.put, List.setIfInBounds_toArray, List.set_cons_zero, List.set_cons_succ, i64_w, i32_w]
          rfl
        refine pure_ (i := 4) (N := some 20) (v := ?_) (a' := ?_) #[true, true, false, false, true, false, false, false, false, false, false] rfl rfl (any_of HT_.out (by kernel_rfl)) (fun _ _ _ h => h) (Or.inl ⟨by rfl, ?_⟩) ?_ ?_
        rotate_left
        · intro w'
          go_simp
          with_reducible rfl
        rotate_left
        · simp only [Act.put, List.setIfInBounds_toArray, List.set_cons_zero, List.set_cons_succ, i64_w, i32_w]
          rfl
        refine pure_ (i := 5) (N := some 21) (v := ?_) (a' := ?_) #[true, true, false, false, true, true, false, false, false, false, false] rfl rfl (any_of HT_.out (by kernel_rfl)) (fun _ _ _ h => h) (Or.inl ⟨by rfl, ?_⟩) ?_ ?_
        rotate_left
        · intro w'
          go_simp
          with_reducible rfl
        rotate_left
        · simp only [Act.put, List.setIfInBounds_toArray, List.set_cons_zero, List.set_cons_succ, i64_w, i32_w]
          rfl
        refine take_ (i := 2) (N := some 18) (v := ?_) (a' := ?_) #[true, true, true, false, true, true, false, false, false, false, false] rfl rfl (take_ofW HT_.out HW_.out (by kernel_rfl)) (fun _ _ _ h => h) (Or.inl ⟨by rfl, ?_⟩) hHeld ?_ ?_
        rotate_left
        · rintro w' s0
          go_simp
          with_reducible rfl
        rotate_left
        · simp only [Act.put, List.setIfInBounds_toArray, List.set_cons_zero, List.set_cons_succ, i64_w, i32_w]
          rfl
        refine pure_ (i := 3) (N := some 19) (v := ?_) (a' := ?_) #[true, true, true, true, true, true, false, false, false, false, false] rfl rfl (any_of HT_.out (by kernel_rfl)) (fun _ _ _ h => h) (Or.inl ⟨by rfl, ?_⟩) ?_ ?_
        rotate_left
        · intro w'
          go_simp
          with_reducible rfl
        rotate_left
        · simp only [Act.put, List.setIfInBounds_toArray, List.set_cons_zero, List.set_cons_succ, i64_w, i32_w]
          rfl
        refine take_ (i := 6) (N := some 22) (v := ?_) (a' := ?_) #[true, true, true, true, true, true, true, false, false, false, false] rfl rfl (take_ofW HT_.out HW_.out (by kernel_rfl)) (fun _ _ _ h => h) (Or.inl ⟨by rfl, ?_⟩) hHeld ?_ ?_
        rotate_left
        · rintro w' s0
          go_simp
          with_reducible rfl
        rotate_left
        · simp only [Act.put, List.setIfInBounds_toArray, List.set_cons_zero, List.set_cons_succ, i64_w, i32_w]
          rfl
        refine pure_ (i := 7) (N := some 23) (v := ?_) (a' := ?_) #[true, true, true, true, true, true, true, true, false, false, false] rfl rfl (any_of HT_.out (by kernel_rfl)) (fun _ _ _ h => h) (Or.inl ⟨by rfl, ?_⟩) ?_ ?_
        rotate_left
        · intro w'
          go_simp
          with_reducible rfl
        rotate_left
        · simp only [Act.put, List.setIfInBounds_toArray, List.set_cons_zero, List.set_cons_succ, i64_w, i32_w]
          rfl
        refine pure_ (i := 8) (N := some 24) (v := ?_) (a' := ?_) #[true, true, true, true, true, true, true, true, true, false, false] rfl rfl (any_of HT_.out (by kernel_rfl)) (fun _ _ _ h => h) (Or.inl ⟨by rfl, ?_⟩) ?_ ?_
        rotate_left
        · intro w'
          go_simp
          with_reducible rfl
        rotate_left
        · simp only [Act.put, List.setIfInBounds_toArray, List.set_cons_zero, List.set_cons_succ, i64_w, i32_w]
          rfl
        refine one_ (i := 9) (N := some 6) #[true, true, true, true, true, true, true, true, true, true, false] rfl rfl (one_of HT_.out (by kernel_rfl)) (by decide) (fun K hK => ?_)
        refine box_step ?hg (N := 6) ?hd (cs := #[.int .u8 0, .int .u8 0, .int .u8 0, .int .i64 0, .int .i64 0, .int .i64 0]) (t := 27) ?hr ?_; (case hd => rfl); (case hg => rfl); (case hr => first | (go_simp; done) | (go_simp; rfl))
        intro gb hg wb hbox hb
        have HS0_ := (hb.cell (World.block_lt_of_cell? _ _ hHeld)).trans hHeld
        have n0_ := Aside0.mk (Kd.R_below (Kd.R_mono (Kd.R_elderB (by ((with_reducible repeat (first | apply Kd.R_alloc | apply Kd.R_drewN | apply Kd.R_drew)); exact HO.out)) gb (Nat.le_of_eq hg.symm)) (fun _ h => h.2)) hb)
        have n1_ := Aside0.mk (below_step (by repeat (first | (with_reducible first | exact HB.out | apply below_alloc | apply pw_below_drewN | apply below_drew1) | exact HB.out)) hb)
        have Ggb := Aside0.mk ((by rw [hg]; exact (below_size (by repeat (first | (with_reducible first | exact HB.out | apply below_alloc | apply pw_below_drewN | apply below_drew1) | exact HB.out)))) : w.heap.size ≤ gb)
        have Bgb := Aside0.mk hbox
        clear HO HB
        have HO := n0_
        have HB := n1_
        clear n0_ n1_ hb hbox hg
        refine hK.out _ _ HS0_ (fun hHeld => ?_)
        clear hK K
        refine norm_ (a' := ?_) ?_ ?_
        rotate_left
        · show Act.put _ (some 6) _ = _
          simp only [Act.put, List.setIfInBounds_toArray, List.set_cons_zero, List.set_cons_succ, i64_w, i32_w]
          rfl
        refine one_ (i := 10) (N := none) #[true, true, true, true, true, true, true, true, true, true, true] rfl rfl (one_of HT_.out (by kernel_rfl)) (by decide) (fun K hK => ?_)
        have hcgb0 : World.cell? _ ⟨gb, 0, none⟩ = some (.int .u8 (0)) := (blk_cell Bgb.out 0).trans rfl
        have hfgb0 := blk_frozen Bgb.out 0
        have hcgb1 : World.cell? _ ⟨gb, 1, none⟩ = some (.int .u8 (0)) := (blk_cell Bgb.out 1).trans rfl
        have hfgb1 := blk_frozen Bgb.out 1
        have hcgb2 : World.cell? _ ⟨gb, 2, none⟩ = some (.int .u8 (0)) := (blk_cell Bgb.out 2).trans rfl
        have hfgb2 := blk_frozen Bgb.out 2
        have hcgb3 : World.cell? _ ⟨gb, 3, none⟩ = some (.int .i64 (0)) := (blk_cell Bgb.out 3).trans rfl
        have hfgb3 := blk_frozen Bgb.out 3
        have hcgb4 : World.cell? _ ⟨gb, 4, none⟩ = some (.int .i64 (0)) := (blk_cell Bgb.out 4).trans rfl
        have hfgb4 := blk_frozen Bgb.out 4
        have hcgb5 : World.cell? _ ⟨gb, 5, none⟩ = some (.int .i64 (0)) := (blk_cell Bgb.out 5).trans rfl
        have hfgb5 := blk_frozen Bgb.out 5
        refine skip_ (w1 := ?_) (by rfl) rfl ?_ ?_
        rotate_left
        · go_simp
          rfl
        have hne : ad.block ≠ gb := Nat.ne_of_lt (Nat.lt_of_lt_of_le HX.out Ggb.out)
        refine hK.out _ _ ((cell_far (p := ⟨gb, _, none⟩) hne _).trans ((cell_far (p := ⟨gb, _, none⟩) hne _).trans ((cell_far (p := ⟨gb, _, none⟩) hne _).trans ((cell_far (p := ⟨gb, _, none⟩) hne _).trans ((cell_far (p := ⟨gb, _, none⟩) hne _).trans ((cell_far (p := ⟨gb, _, none⟩) hne _).trans (hHeld))))))) (fun hHeld => ?_)
        clear hK K
        refine done_ (done_of HT_.out (by kernel_rfl)) ?_
        (try go_wp2)
        go_meet
        exact ⟨gb, rfl, Ggb, ⟨by (with_reducible repeat (first | refine blk_drewN ?_ _ | refine blk_drew ?_ | refine blk_alloc ?_ _)); refine blk_put (cs := #[.int .u8 (Int.tmod c 4), .int .u8 ((Int.tdiv c 4) % 256), .int .u8 (0), .int .i64 (0), .int .i64 (0), .int .i64 (0)]) ?_ 5 _ rfl; (with_reducible repeat (first | refine blk_drewN ?_ _ | refine blk_drew ?_ | refine blk_alloc ?_ _)); refine blk_put (cs := #[.int .u8 (Int.tmod c 4), .int .u8 ((Int.tdiv c 4) % 256), .int .u8 (0), .int .i64 (0), .int .i64 (0), .int .i64 (0)]) ?_ 4 _ rfl; (with_reducible repeat (first | refine blk_drewN ?_ _ | refine blk_drew ?_ | refine blk_alloc ?_ _)); refine blk_put (cs := #[.int .u8 (Int.tmod c 4), .int .u8 ((Int.tdiv c 4) % 256), .int .u8 (0), .int .i64 (0), .int .i64 (0), .int .i64 (0)]) ?_ 3 _ rfl; (with_reducible repeat (first | refine blk_drewN ?_ _ | refine blk_drew ?_ | refine blk_alloc ?_ _)); refine blk_put (cs := #[.int .u8 (Int.tmod c 4), .int .u8 ((Int.tdiv c 4) % 256), .int .u8 (0), .int .i64 (0), .int .i64 (0), .int .i64 (0)]) ?_ 2 _ rfl; (with_reducible repeat (first | refine blk_drewN ?_ _ | refine blk_drew ?_ | refine blk_alloc ?_ _)); refine blk_put (cs := #[.int .u8 (Int.tmod c 4), .int .u8 (0), .int .u8 (0), .int .i64 (0), .int .i64 (0), .int .i64 (0)]) ?_ 1 _ rfl; (with_reducible repeat (first | refine blk_drewN ?_ _ | refine blk_drew ?_ | refine blk_alloc ?_ _)); refine blk_put (cs := #[.int .u8 (0), .int .u8 (0), .int .u8 (0), .int .i64 (0), .int .i64 (0), .int .i64 (0)]) ?_ 0 _ rfl; (with_reducible repeat (first | refine blk_drewN ?_ _ | refine blk_drew ?_ | refine blk_alloc ?_ _)); exact Bgb.out⟩, ⟨by exact Kd.R_far (p := ⟨gb, _, none⟩) (Kd.R_far (p := ⟨gb, _, none⟩) (Kd.R_far (p := ⟨gb, _, none⟩) (Kd.R_far (p := ⟨gb, _, none⟩) (Kd.R_far (p := ⟨gb, _, none⟩) (Kd.R_far (p := ⟨gb, _, none⟩) (HO.out) (fun _ hk => hk) _) (fun _ hk => hk) _) (fun _ hk => hk) _) (fun _ hk => hk) _) (fun _ hk => hk) _) (fun _ hk => hk) _⟩, ⟨by repeat (first | (with_reducible first | exact HB.out | apply below_alloc | apply pw_below_drewN | apply below_drew1 | refine below_set ?_ Ggb.out) | exact HB.out)⟩⟩
      case rest =>
        clear HO HB hx
        obtain ⟨gb, rfl, Ggb, Bgb, HO, HB⟩ := hcut
        obtain ⟨A1, hA1⟩ : ∃ A1, A1 = (if cap = 1 then some ad else (some ad).map (·.add (1 * 1))) := ⟨_, rfl⟩
        have hcut1 := cut_from (P := Try.prog) 33 5 .i64 Try.underlying33 hi5 1 (by kernel_rfl) (some ad) (r.length + 1) cap 1 (by omega) (by omega)
        rw [show (1 : Int).toNat = 1 from rfl, ← hA1, show r.length + 1 - 1 = r.length from rfl] at hcut1
        have HC1 := Aside0.mk (show Kd.C (Kd.int .u8) w A1 r.length r from by rw [hA1]; exact Kd.C_drop (m := 1) HC.out (by simp only [List.length_cons]; omega) HK.out.1)
        clear hA1
        have hcB := HBY.out c (by simp)
        have HRB := Aside0.mk (show IsBytes r from fun x hx => HBY.out x (by simp [hx]))
        have HC4 := Aside0.mk (show Int.tmod c 4 = c % 4 ∧ (Int.tdiv c 4) % 256 = c / 4 from ⟨Int.tmod_eq_emod_of_nonneg hcB.1, by rw [Int.tdiv_eq_ediv_of_nonneg hcB.1]; omega⟩)
        clear hcB
        by_cases c8 : Int.tmod c 4 = 0
        · have c8b0 : (Int.tmod c 4 == 0) = true := beq_iff_eq.mpr c8
          have c8b1 : (Int.tmod c 4 != 0) = false := bne_eq_false_iff_eq.mpr c8
          have H8 := Aside0.mk c8
          clear c8
          by_cases hr0 : r.length = 0
          · have b0 : ((r.length : Int) == 0) = true := beq_iff_eq.mpr (by omega)
            have b1 : (r.length == 0) = true := beq_iff_eq.mpr hr0
            have HR0 := Aside0.mk hr0
            clear hr0
            have hcgb0 : World.cell? _ ⟨gb, 0, none⟩ = some (.int .u8 (Int.tmod c 4)) := (blk_cell Bgb.out 0).trans rfl
            have hfgb0 := blk_frozen Bgb.out 0
            have hcgb1 : World.cell? _ ⟨gb, 1, none⟩ = some (.int .u8 ((Int.tdiv c 4) % 256)) := (blk_cell Bgb.out 1).trans rfl
            have hfgb1 := blk_frozen Bgb.out 1
            have hcgb2 : World.cell? _ ⟨gb, 2, none⟩ = some (.int .u8 (0)) := (blk_cell Bgb.out 2).trans rfl
            have hfgb2 := blk_frozen Bgb.out 2
            have hcgb3 : World.cell? _ ⟨gb, 3, none⟩ = some (.int .i64 (0)) := (blk_cell Bgb.out 3).trans rfl
            have hfgb3 := blk_frozen Bgb.out 3
            have hcgb4 : World.cell? _ ⟨gb, 4, none⟩ = some (.int .i64 (0)) := (blk_cell Bgb.out 4).trans rfl
            have hfgb4 := blk_frozen Bgb.out 4
            have hcgb5 : World.cell? _ ⟨gb, 5, none⟩ = some (.int .i64 (0)) := (blk_cell Bgb.out 5).trans rfl
            have hfgb5 := blk_frozen Bgb.out 5

            go_wp2
            go_roundg k1
            case measure => omega
            case rel =>
              have hr : r = [] := List.length_eq_zero_iff.mp HR0.out
              have hD : dec (k1 + 1) (c :: r) = ((dec k1 r).1, (dec k1 r).2 + 1) := by
                subst hr
                rw [dec]; unfold one?; rw [if_pos (by rw [← HC4.out.1]; exact H8.out)]
              have hw : wrap64 (bad + 1) = bad + 1 := by have h1 := HQ.out; have h2 := HL.out; unfold wrap64; omega
              exact ⟨A1, cap - 1, r, out, wrap64 (bad + 1), rfl, rfl, ⟨by have := HK.out.1; simp only [List.length_cons] at this; omega, by have := HR0.out; omega, by have := HK.out.2.2; omega⟩, HC1, HRB,
                ⟨by rw [HQ.out.1, hD], by rw [HQ.out.2.1, hD, hw]; simp only; omega, by have := HQ.out.2.2.1; omega, by rw [hw]; have := HQ.out.2.2.2.1; omega, by rw [hw]; have := HQ.out.2.2.2.2; omega⟩, ⟨Kd.R_mono HO.out (fun _ _ => trivial)⟩, HB⟩
          · have b0 : ((r.length : Int) == 0) = false := beq_eq_false_iff_ne.mpr (by omega)
            have b1 : (r.length == 0) = false := beq_eq_false_iff_ne.mpr hr0
            have hr1 : (0 < r.length) = True := eq_true (by omega)
            obtain ⟨ad2, e_, hy0⟩ := Kd.at_int HC1.out 0 (by omega) (by omega)
            subst e_
            obtain ⟨K, r2, hr⟩ : ∃ K r2, r = K :: r2 := by
              cases r with
              | nil => exact absurd rfl hr0
              | cons K r2 => exact ⟨K, r2, rfl⟩
            have hy : World.cell? w ad2 = some (.int .u8 K) := by
              have h : rd r 0 = K := by rw [hr]; rfl
              rw [← h]
              simpa [Addr.add_zero'] using hy0
            have hyc := (HB.out.cell (World.block_lt_of_cell? w _ hy)).trans hy
            clear hy hy0
            obtain ⟨A2, hA2⟩ : ∃ A2, A2 = (if cap - 1 = 1 then some ad2 else (some ad2).map (·.add (1 * 1))) := ⟨_, rfl⟩
            have hcut2 := cut_from (P := Try.prog) 33 5 .i64 Try.underlying33 hi5 1 (by kernel_rfl) (some ad2) r.length (cap - 1) 1 (by omega) (by omega)
            rw [show (1 : Int).toNat = 1 from rfl, ← hA2, show r.length - 1 = r2.length from by rw [hr]; rfl] at hcut2
            have HC2 := Aside0.mk (show Kd.C (Kd.int .u8) w A2 r2.length r2 from by
              have h := Kd.C_drop (m := 1) HC1.out (by omega) (c := cap - 1) (by have := HK.out.1; simp only [List.length_cons] at this; omega)
              rw [hA2]
              rw [show r.drop 1 = r2 from by rw [hr]; rfl] at h
              exact h)
            clear hA2
            have HR := Aside0.mk hr
            have hKb := HRB.out K (by rw [hr]; simp)
            have HRB2 := Aside0.mk (show IsBytes r2 from fun x hx => HRB.out x (by rw [hr]; simp [hx]))
            have HK0 := Aside0.mk hKb
            clear hr hKb hr0
            by_cases h12 : 12 ≤ K
            · have HM := Aside0.mk (show boscagelaw18_Many.f 2 K = some (-1) from by rw [manyL_eq K HK0.out.1]; simp [manyL, h12])
              have H12 := Aside0.mk h12
              clear h12
              have hcgb0 : World.cell? _ ⟨gb, 0, none⟩ = some (.int .u8 (Int.tmod c 4)) := (blk_cell Bgb.out 0).trans rfl
              have hfgb0 := blk_frozen Bgb.out 0
              have hcgb1 : World.cell? _ ⟨gb, 1, none⟩ = some (.int .u8 ((Int.tdiv c 4) % 256)) := (blk_cell Bgb.out 1).trans rfl
              have hfgb1 := blk_frozen Bgb.out 1
              have hcgb2 : World.cell? _ ⟨gb, 2, none⟩ = some (.int .u8 (0)) := (blk_cell Bgb.out 2).trans rfl
              have hfgb2 := blk_frozen Bgb.out 2
              have hcgb3 : World.cell? _ ⟨gb, 3, none⟩ = some (.int .i64 (0)) := (blk_cell Bgb.out 3).trans rfl
              have hfgb3 := blk_frozen Bgb.out 3
              have hcgb4 : World.cell? _ ⟨gb, 4, none⟩ = some (.int .i64 (0)) := (blk_cell Bgb.out 4).trans rfl
              have hfgb4 := blk_frozen Bgb.out 4
              have hcgb5 : World.cell? _ ⟨gb, 5, none⟩ = some (.int .i64 (0)) := (blk_cell Bgb.out 5).trans rfl
              have hfgb5 := blk_frozen Bgb.out 5

              go_wp2_with (first | ((with_reducible refine gate_callee (f := 21) rfl ?_); refine goesL_ (some 45) rfl rfl Try.func21 (by kernel_rfl) rfl #[.int .u8 K] rfl (by (try simp only [List.map_toArray, List.map_cons, List.map_nil]); first | done | rfl | (simp only [List.length_drop, List.length_take]; rfl)) ?_; (with_reducible refine (boscagelaw18_Many.calls 2 K (-1) _ HM.out).mono ?_); rintro e w' ⟨rfl, ⟨nd, rfl⟩⟩; refine ⟨_, rfl, ?_⟩))
              go_loopg [0, 9, 10] 0 (fun kq v0 v9 v10 w' => v0 = .slice A2 r2.length (cap - 1 - 1) ∧ v9 = .bool false ∧ v10 = .slice none 0 0 ∧ Aside0 (Kd.R k27 27 w' w.heap.size (fun k_ => k_ ≠ gb) u4 out) ∧ Aside0 (Below w.heap.size w w'))
              case atStart => exact ⟨rfl, by first | rfl | (simp; done), rfl, ⟨by ((with_reducible repeat (first | apply Kd.R_alloc | apply Kd.R_drewN | apply Kd.R_drew)); exact HO.out)⟩, ⟨by repeat (first | (with_reducible first | exact HB.out | apply below_alloc | apply pw_below_drewN | apply below_drew1) | exact HB.out)⟩⟩
              case round =>
                clear HO HB
                obtain ⟨rfl, rfl, rfl, HO, HB⟩ := hrel
                go_wp2
                go_roundg k1
                case measure => omega
                case rel =>
                  have hD : dec (k1 + 1) (c :: r) = ((dec k1 r2).1, (dec k1 r2).2 + 1) := by
                    rw [HR.out, dec]; unfold one?; rw [if_pos (by rw [← HC4.out.1]; exact H8.out)]
                    simp only
                    rw [if_pos H12.out]
                  have hl := congrArg List.length HR.out
                  simp only [List.length_cons] at hl
                  have hw : wrap64 (bad + 1) = bad + 1 := by have h1 := HQ.out; have h2 := HL.out; unfold wrap64; omega
                  exact ⟨A2, cap - 1 - 1, r2, out, wrap64 (bad + 1), rfl, rfl, ⟨by have := HK.out.1; simp only [List.length_cons] at this; omega, by have := HK.out.2.1; simp only [List.length_cons] at this; omega, by have := HK.out.2.2; omega⟩, HC2, HRB2,
                    ⟨by rw [HQ.out.1, hD], by rw [HQ.out.2.1, hD, hw]; simp only; omega, by have := HQ.out.2.2.1; omega, by rw [hw]; have := HQ.out.2.2.2.1; omega, by rw [hw]; have := HQ.out.2.2.2.2; omega⟩, ⟨Kd.R_mono HO.out (fun _ _ => trivial)⟩, HB⟩
            · obtain ⟨cnt, hcnt⟩ : ∃ cnt, cnt = count K := ⟨_, rfl⟩
              have HM := Aside0.mk (show boscagelaw18_Many.f 2 K = some (cnt : Int) from by rw [manyL_eq K HK0.out.1, hcnt]; simp [manyL, h12])
              have H12 := Aside0.mk h12
              have HCN := Aside0.mk hcnt
              have hg : decide (0 ≤ (cnt : Int)) = true := decide_eq_true (by omega)
              clear h12 hcnt
              have hcgb0 : World.cell? _ ⟨gb, 0, none⟩ = some (.int .u8 (Int.tmod c 4)) := (blk_cell Bgb.out 0).trans rfl
              have hfgb0 := blk_frozen Bgb.out 0
              have hcgb1 : World.cell? _ ⟨gb, 1, none⟩ = some (.int .u8 ((Int.tdiv c 4) % 256)) := (blk_cell Bgb.out 1).trans rfl
              have hfgb1 := blk_frozen Bgb.out 1
              have hcgb2 : World.cell? _ ⟨gb, 2, none⟩ = some (.int .u8 (0)) := (blk_cell Bgb.out 2).trans rfl
              have hfgb2 := blk_frozen Bgb.out 2
              have hcgb3 : World.cell? _ ⟨gb, 3, none⟩ = some (.int .i64 (0)) := (blk_cell Bgb.out 3).trans rfl
              have hfgb3 := blk_frozen Bgb.out 3
              have hcgb4 : World.cell? _ ⟨gb, 4, none⟩ = some (.int .i64 (0)) := (blk_cell Bgb.out 4).trans rfl
              have hfgb4 := blk_frozen Bgb.out 4
              have hcgb5 : World.cell? _ ⟨gb, 5, none⟩ = some (.int .i64 (0)) := (blk_cell Bgb.out 5).trans rfl
              have hfgb5 := blk_frozen Bgb.out 5

              go_wp2_with (first | ((with_reducible refine gate_callee (f := 21) rfl ?_); refine goesL_ (some 45) rfl rfl Try.func21 (by kernel_rfl) rfl #[.int .u8 K] rfl (by (try simp only [List.map_toArray, List.map_cons, List.map_nil]); first | done | rfl | (simp only [List.length_drop, List.length_take]; rfl)) ?_; (with_reducible refine (boscagelaw18_Many.calls 2 K (cnt : Int) _ HM.out).mono ?_); rintro e w' ⟨rfl, ⟨nd, rfl⟩⟩; refine ⟨_, rfl, ?_⟩))
              have HCL := Aside0.mk (show cnt ≤ 2 from by rw [HCN.out]; exact nums_len K 0 0 0)
              go_loopg [0, 9, 10] cnt (fun kq v0 v9 v10 w' => ∃ (A2 : Option Addr) (cap2 : Nat) (r3 vs : List Int) (Al : Option Addr) (co : Nat), v0 = .slice A2 r3.length cap2 ∧ v9 = .bool true ∧ v10 = .slice Al vs.length co ∧
                Aside0 (vs.length + kq = cnt ∧ nums? vs.length r2 = some (vs, r3) ∧ r3.length ≤ cap2 ∧ r3.length ≤ r2.length) ∧ Aside0 (Kd.C (Kd.int .u8) w A2 r3.length r3) ∧ Aside0 (IsBytes r3) ∧ Aside0 (Kd.R (Kd.int .i64) 2 w' w.heap.size (fun _ => True) v10 vs) ∧ Aside0 (Kd.R k27 27 w' w.heap.size (fun k_ => k_ ≠ gb) u4 out) ∧ Aside0 (w'.heap[gb]? = some (.cells #[.int .u8 (Int.tmod c 4), .int .u8 ((Int.tdiv c 4) % 256), .int .u8 (0), .int .i64 (0), .int .i64 (0), .int .i64 (0)] 27 (0, 0))) ∧ Aside0 (Below w.heap.size w w'))
              case atStart => exact ⟨A2, cap - 1 - 1, r2, [], none, 0, rfl, rfl, rfl, ⟨by simp, by simp [nums?], by have h := HK.out.1; have hl := congrArg List.length HR.out; simp only [List.length_cons] at h hl; omega, Nat.le_refl _⟩, HC2, HRB2, ⟨Kd.R_nil _ _ _ _ _⟩, ⟨by ((with_reducible repeat (first | apply Kd.R_alloc | apply Kd.R_drewN | apply Kd.R_drew)); exact HO.out)⟩, ⟨by (with_reducible repeat (first | refine blk_drewN ?_ _ | refine blk_drew ?_ | refine blk_alloc ?_ _)); exact Bgb.out⟩, ⟨by repeat (first | (with_reducible first | exact HB.out | apply below_alloc | apply pw_below_drewN | apply below_drew1) | exact HB.out)⟩⟩
              case round =>
                clear HO HB Bgb hcut2 HC2 HRB2 hg hyc
                clear hcgb0 hfgb0
                clear hcgb1 hfgb1
                clear hcgb2 hfgb2
                clear hcgb3 hfgb3
                clear hcgb4 hfgb4
                clear hcgb5 hfgb5

                obtain ⟨A2, cap2, r3, vs, Al, co, rfl, rfl, hv10, HI, HC3, HRB3, HV, HO, Bgb, HB⟩ := hrel
                subst hv10
                cases gk with
                | zero =>
                  have hlt : decide ((vs.length : Int) < (cnt : Int)) = false := decide_eq_false (by have := HI.out.1; omega)
                  have hlt' : decide (vs.length < cnt) = false := decide_eq_false (by have := HI.out.1; omega)
                  have HOP := Aside0.mk (opL_eq 3 (by omega) K vs HK0.out.1 (by have := H12.out; omega) (by rw [← HCN.out]; have := HI.out.1; omega))
                  have LM := Aside0.mk (show out.length < 3518437208883 from by have h := HQ.out.2.2.1; have h2 := HL.out; omega)
                  go_upto_region 22 with (fail)
                  go_cut [] (fun we => Aside0 (we.heap[gb]? = some (.cells #[.int .u8 (Int.tmod c 4), .int .u8 ((Int.tdiv c 4) % 256), .int .u8 ((opOf K vs).f0), .int .i64 ((opOf K vs).f1), .int .i64 ((opOf K vs).f2), .int .i64 ((opOf K vs).f3)] 27 (0, 0))) ∧ Aside0 (Kd.R k27 27 we w.heap.size (fun k_ => k_ ≠ gb) u4 out) ∧ Aside0 (Below w.heap.size w we))
                  case first =>
                    go_wp2_with (first | ((with_reducible refine gate_callee (f := 28) rfl ?_); refine goesL_ (some 72) rfl rfl Try.func28 (by kernel_rfl) rfl #[.int .u8 K, .slice Al vs.length co] rfl (by (try simp only [List.map_toArray, List.map_cons, List.map_nil]); first | done | rfl | (simp only [List.length_drop, List.length_take]; rfl)) ?_; (with_reducible refine (boscagelaw24_op.calls 3 K Al co vs (opOf K vs).f0 (opOf K vs).f1 (opOf K vs).f2 (opOf K vs).f3 _ ?oc ?ol HOP.out).mono ?_); (case oc => exact (Kd.R_reads' (by ((with_reducible repeat (first | apply Kd.R_alloc | apply Kd.R_drewN | apply Kd.R_drew)); exact HV.out) : Kd.R (Kd.int .i64) 2 _ w.heap.size (fun _ => True) (.slice Al vs.length co) vs)).2.2); (case ol => exact (Kd.R_reads' HV.out).2.1); rintro e w2 ⟨rfl, hb⟩; refine ⟨_, rfl, ?_⟩; have n0_ := Aside0.mk (Kd.R_below (by ((with_reducible repeat (first | apply Kd.R_alloc | apply Kd.R_drewN | apply Kd.R_drew)); exact HO.out)) hb); have n1_ := Aside0.mk (below_step (by repeat (first | (with_reducible first | exact HB.out | apply below_alloc | apply pw_below_drewN | apply below_drew1) | exact HB.out)) hb); have n2_ := Aside0.mk (blk_below (g := gb) (o := .cells #[.int .u8 (Int.tmod c 4), .int .u8 ((Int.tdiv c 4) % 256), .int .u8 (0), .int .i64 (0), .int .i64 (0), .int .i64 (0)] 27 (0, 0)) (by (with_reducible repeat (first | refine blk_drewN ?_ _ | refine blk_drew ?_ | refine blk_alloc ?_ _)); exact Bgb.out) hb); clear HO HB Bgb; have HO := n0_; have HB := n1_; have Bgb := n2_; clear n0_ n1_ n2_ hb; have hcgb0 : World.cell? _ ⟨gb, 0, none⟩ = some (.int .u8 (Int.tmod c 4)) := (blk_cell Bgb.out 0).trans rfl; have hfgb0 := blk_frozen Bgb.out 0; have hcgb1 : World.cell? _ ⟨gb, 1, none⟩ = some (.int .u8 ((Int.tdiv c 4) % 256)) := (blk_cell Bgb.out 1).trans rfl; have hfgb1 := blk_frozen Bgb.out 1; have hcgb2 : World.cell? _ ⟨gb, 2, none⟩ = some (.int .u8 (0)) := (blk_cell Bgb.out 2).trans rfl; have hfgb2 := blk_frozen Bgb.out 2; have hcgb3 : World.cell? _ ⟨gb, 3, none⟩ = some (.int .i64 (0)) := (blk_cell Bgb.out 3).trans rfl; have hfgb3 := blk_frozen Bgb.out 3; have hcgb4 : World.cell? _ ⟨gb, 4, none⟩ = some (.int .i64 (0)) := (blk_cell Bgb.out 4).trans rfl; have hfgb4 := blk_frozen Bgb.out 4; have hcgb5 : World.cell? _ ⟨gb, 5, none⟩ = some (.int .i64 (0)) := (blk_cell Bgb.out 5).trans rfl; have hfgb5 := blk_frozen Bgb.out 5))
                    go_meet
                    exact ⟨⟨by (with_reducible repeat (first | refine blk_drewN ?_ _ | refine blk_drew ?_ | refine blk_alloc ?_ _)); refine blk_put (cs := #[.int .u8 (Int.tmod c 4), .int .u8 ((Int.tdiv c 4) % 256), .int .u8 ((opOf K vs).f0), .int .i64 ((opOf K vs).f1), .int .i64 ((opOf K vs).f2), .int .i64 (0)]) ?_ 5 _ rfl; (with_reducible repeat (first | refine blk_drewN ?_ _ | refine blk_drew ?_ | refine blk_alloc ?_ _)); refine blk_put (cs := #[.int .u8 (Int.tmod c 4), .int .u8 ((Int.tdiv c 4) % 256), .int .u8 ((opOf K vs).f0), .int .i64 ((opOf K vs).f1), .int .i64 (0), .int .i64 (0)]) ?_ 4 _ rfl; (with_reducible repeat (first | refine blk_drewN ?_ _ | refine blk_drew ?_ | refine blk_alloc ?_ _)); refine blk_put (cs := #[.int .u8 (Int.tmod c 4), .int .u8 ((Int.tdiv c 4) % 256), .int .u8 ((opOf K vs).f0), .int .i64 (0), .int .i64 (0), .int .i64 (0)]) ?_ 3 _ rfl; (with_reducible repeat (first | refine blk_drewN ?_ _ | refine blk_drew ?_ | refine blk_alloc ?_ _)); refine blk_put (cs := #[.int .u8 (Int.tmod c 4), .int .u8 ((Int.tdiv c 4) % 256), .int .u8 (0), .int .i64 (0), .int .i64 (0), .int .i64 (0)]) ?_ 2 _ rfl; (with_reducible repeat (first | refine blk_drewN ?_ _ | refine blk_drew ?_ | refine blk_alloc ?_ _)); exact Bgb.out⟩, ⟨by exact Kd.R_far (p := ⟨gb, _, none⟩) (Kd.R_far (p := ⟨gb, _, none⟩) (Kd.R_far (p := ⟨gb, _, none⟩) (Kd.R_far (p := ⟨gb, _, none⟩) (HO.out) (fun _ hk => hk) _) (fun _ hk => hk) _) (fun _ hk => hk) _) (fun _ hk => hk) _⟩, ⟨by repeat (first | (with_reducible first | exact HB.out | apply below_alloc | apply pw_below_drewN | apply below_drew1 | refine below_set ?_ Ggb.out) | exact HB.out)⟩⟩
                  case rest =>
                    clear Bgb HO HB
                    obtain ⟨Bgb, HO, HB⟩ := hcut
                    have hcgb0 : World.cell? _ ⟨gb, 0, none⟩ = some (.int .u8 (Int.tmod c 4)) := (blk_cell Bgb.out 0).trans rfl
                    have hfgb0 := blk_frozen Bgb.out 0
                    have hcgb1 : World.cell? _ ⟨gb, 1, none⟩ = some (.int .u8 ((Int.tdiv c 4) % 256)) := (blk_cell Bgb.out 1).trans rfl
                    have hfgb1 := blk_frozen Bgb.out 1
                    have hcgb2 : World.cell? _ ⟨gb, 2, none⟩ = some (.int .u8 ((opOf K vs).f0)) := (blk_cell Bgb.out 2).trans rfl
                    have hfgb2 := blk_frozen Bgb.out 2
                    have hcgb3 : World.cell? _ ⟨gb, 3, none⟩ = some (.int .i64 ((opOf K vs).f1)) := (blk_cell Bgb.out 3).trans rfl
                    have hfgb3 := blk_frozen Bgb.out 3
                    have hcgb4 : World.cell? _ ⟨gb, 4, none⟩ = some (.int .i64 ((opOf K vs).f2)) := (blk_cell Bgb.out 4).trans rfl
                    have hfgb4 := blk_frozen Bgb.out 4
                    have hcgb5 : World.cell? _ ⟨gb, 5, none⟩ = some (.int .i64 ((opOf K vs).f3)) := (blk_cell Bgb.out 5).trans rfl
                    have hfgb5 := blk_frozen Bgb.out 5

                    go_wp2_with (first | ((with_reducible refine gate_builtin (b := .append) (xs := #[.tmp 74, .tmp 76]) rfl ?_); at_builtin; refine Kd.R_append k27 (w0 := w) w.heap.size rfl (.tmp 74) (.tmp 76) 30 27 (.agg #[.int .u8 0, .int .u8 0, .int .u8 0, .int .i64 0, .int .i64 0, .int .i64 0]) 40 rfl Try.underlying30 info27 rfl (by decide) (by omega) u4 out (⟨Int.tmod c 4, (Int.tdiv c 4) % 256, (⟨(opOf K vs).f0, (opOf K vs).f1, (opOf K vs).f2, (opOf K vs).f3⟩ : S25)⟩ : S27) [.int .u8 (Int.tmod c 4), .int .u8 ((Int.tdiv c 4) % 256), .int .u8 ((opOf K vs).f0), .int .i64 ((opOf K vs).f1), .int .i64 ((opOf K vs).f2), .int .i64 ((opOf K vs).f3)] (fun _ => True) (fun _ => False) rfl (by first | (go_simp; done) | (go_simp; rfl)) ?aP1 (fun _ hk => hk.elim) ?aF1 ?aO1 ?aB1 ?aS1 ?aL1 ?_; (case aP1 => exact k27_mkM _ _ _ (⟨Int.tmod c 4, (Int.tdiv c 4) % 256, (⟨(opOf K vs).f0, (opOf K vs).f1, (opOf K vs).f2, (opOf K vs).f3⟩ : S25)⟩ : S27)); (case aF1 => exact (fun _ _ => trivial)); (case aO1 => exact (by (with_reducible repeat (first | apply Kd.R_alloc | apply Kd.R_drewN | apply Kd.R_drew)); exact Kd.R_mono HO.out (fun _ _ => trivial))); (case aB1 => exact (by repeat (first | (with_reducible first | exact HB.out | apply below_alloc | apply pw_below_drewN | apply below_drew1) | exact HB.out))); (case aS1 => exact (below_size (by repeat (first | (with_reducible first | exact HB.out | apply below_alloc | apply pw_below_drewN | apply below_drew1) | exact HB.out)))); (case aL1 => have := LM.out; omega); intro v5_ w5 ho hb hg hat; have n0_ := Aside0.mk ho; have n1_ := Aside0.mk hb; clear HO HB; have HO := n0_; have HB := n1_; clear n0_ n1_ ho hb hg hat))
                    go_roundg k1
                    case measure => omega
                    case rel =>
                      have hD : dec (k1 + 1) (c :: r) = (⟨0, c / 4, opOf K vs⟩ :: (dec k1 r3).1, (dec k1 r3).2) := by
                        rw [HR.out, dec]; unfold one?; rw [if_pos (by rw [← HC4.out.1]; exact H8.out)]
                        simp only
                        have h := HI.out.2.1
                        rw [show vs.length = count K from by rw [← HCN.out]; have := HI.out.1; omega] at h
                        rw [if_neg (by have := H12.out; omega), h]
                      have hl := congrArg List.length HR.out
                      simp only [List.length_cons] at hl
                      exact ⟨A2, cap2, r3, _, bad, rfl, rfl, ⟨HI.out.2.2.1, by have := HK.out.2.1; have := HI.out.2.2.2; simp only [List.length_cons] at *; omega, by have := HK.out.2.2; omega⟩, HC3, HRB3,
                        ⟨by rw [HQ.out.1, hD, H8.out, HC4.out.2]; simp, by rw [HQ.out.2.1, hD], by have := HQ.out.2.2.1; simp only [List.length_append, List.length_singleton]; omega, HQ.out.2.2.2.1, by have := HQ.out.2.2.2.2; omega⟩, HO, HB⟩
                | succ k2 =>
                  have hlt : decide ((vs.length : Int) < (cnt : Int)) = true := decide_eq_true (by have := HI.out.1; omega)
                  have hlt' : decide (vs.length < cnt) = true := decide_eq_true (by have := HI.out.1; omega)
                  have hl := congrArg List.length HR.out
                  simp only [List.length_cons] at hl
                  have HLR := Aside0.mk hl
                  clear hl
                  have hrd := read_told 30 r3 (by omega) HRB3.out (by have h1 := HI.out.2.2.2; have h2 := HLR.out; have h3 := HK.out.2; have h4 := HL.out; simp only [List.length_cons] at h3; omega)
                  rcases hn : num? 0 0 r3 with _ | ⟨v, r4⟩
                  · rw [hn] at hrd
                    have HRD := Aside0.mk (show boscagelaw24_read.f 30 r3 = some (0, 0) from hrd)
                    have HN := Aside0.mk hn
                    clear hrd hn
                    go_wp2_with (first | ((with_reducible refine gate_callee (f := 27) rfl ?_); refine goesL_ (some 54) rfl rfl Try.func27 (by kernel_rfl) rfl #[.slice A2 r3.length cap2] rfl (by (try simp only [List.map_toArray, List.map_cons, List.map_nil]); first | done | rfl | (simp only [List.length_drop, List.length_take]; rfl)) ?_; (with_reducible refine (boscagelaw24_read.calls 30 A2 cap2 r3 0 0 _ ?rca ?rla HRD.out).mono ?_); (case rca => exact Kd.C_below HC3.out (by repeat (first | (with_reducible first | exact HB.out | apply below_alloc | apply pw_below_drewN | apply below_drew1) | exact HB.out))); (case rla => exact HI.out.2.2.1); rintro e w' ⟨rfl, ⟨nd, hq⟩⟩; refine ⟨_, rfl, ?_⟩; have n0_ : Aside0 (Kd.R k27 27 w' w.heap.size (fun k_ => k_ ≠ gb) u4 out) := ⟨by rw [hq]; exact Kd.R_drewN HO.out nd⟩; have n1_ : Aside0 (Kd.R (Kd.int .i64) 2 w' w.heap.size (fun _ => True) (.slice Al vs.length co) vs) := ⟨by rw [hq]; exact Kd.R_drewN HV.out nd⟩; have n2_ : Aside0 (w'.heap[gb]? = some (.cells #[.int .u8 (Int.tmod c 4), .int .u8 ((Int.tdiv c 4) % 256), .int .u8 (0), .int .i64 (0), .int .i64 (0), .int .i64 (0)] 27 (0, 0))) := ⟨by rw [hq]; exact blk_drewN Bgb.out nd⟩; have n3_ : Aside0 (Below w.heap.size w w') := ⟨by rw [hq]; exact pw_below_drewN HB.out nd⟩; clear HO HV Bgb HB hq; have HO := n0_; have HV := n1_; have Bgb := n2_; have HB := n3_; clear n0_ n1_ n2_ n3_))
                    go_roundg k1
                    case measure => omega
                    case rel =>
                      have hD : dec (k1 + 1) (c :: r) = ((dec k1 []).1, (dec k1 []).2 + 1) := by
                        rw [HR.out, dec]; unfold one?; rw [if_pos (by rw [← HC4.out.1]; exact H8.out)]
                        simp only
                        rw [if_neg (by have := H12.out; omega), nums?_none vs.length (count K) r2 vs r3 HI.out.2.1 HN.out (by rw [← HCN.out]; have := HI.out.1; omega)]
                      have hw : wrap64 (bad + 1) = bad + 1 := by have h1 := HQ.out; have h2 := HL.out; unfold wrap64; omega
                      exact ⟨none, 0, [], out, wrap64 (bad + 1), rfl, rfl, ⟨by simp, by simp, by have := HK.out.2.2; omega⟩, ⟨⟨rfl, by simp, fun h => absurd h (by simp)⟩⟩, ⟨fun x hx => by simp at hx⟩,
                        ⟨by rw [HQ.out.1, hD], by rw [HQ.out.2.1, hD, hw]; simp only; omega, by have := HQ.out.2.2.1; omega, by rw [hw]; have := HQ.out.2.2.2.1; omega, by rw [hw]; have := HQ.out.2.2.2.2; omega⟩, ⟨by exact Kd.R_mono (by ((with_reducible repeat (first | apply Kd.R_alloc | apply Kd.R_drewN | apply Kd.R_drew)); exact HO.out)) (fun _ _ => trivial)⟩, ⟨by repeat (first | (with_reducible first | exact HB.out | apply below_alloc | apply pw_below_drewN | apply below_drew1) | exact HB.out)⟩⟩
                  · rw [hn] at hrd
                    have hlen := num?_len _ _ _ _ _ hn
                    obtain ⟨m, hm⟩ : ∃ m, m = r3.length - r4.length := ⟨_, rfl⟩
                    have HRD := Aside0.mk (show boscagelaw24_read.f 30 r3 = some (v, (m : Int)) from by rw [hrd, hm]; rfl)
                    have hm0 : ((m : Int) == 0) = false := beq_eq_false_iff_ne.mpr (by omega)
                    have hm1 : (m == 0) = false := beq_eq_false_iff_ne.mpr (by omega)
                    obtain ⟨A3, hA3⟩ : ∃ A3, A3 = (if cap2 = m then A2 else A2.map (·.add (m * 1))) := ⟨_, rfl⟩
                    have hcut3 := cut_from (P := Try.prog) 33 5 .i64 Try.underlying33 hi5 1 (by kernel_rfl) A2 r3.length cap2 (m : Int) (by omega) (by omega)
                    rw [Int.toNat_natCast, ← hA3, show r3.length - m = r4.length from by omega] at hcut3
                    have hdrop : r3.drop m = r4 := by rw [hm]; exact num?_suffix _ _ _ _ _ hn
                    have HC5 := Aside0.mk (show Kd.C (Kd.int .u8) w A3 r4.length r4 from by
                      have h := Kd.C_drop (m := m) HC3.out (by omega) (c := cap2) HI.out.2.2.1
                      rw [hdrop] at h
                      rw [hA3]
                      exact h)
                    have HRB4 := Aside0.mk (show IsBytes r4 from fun x hx => HRB3.out x (by rw [← hdrop] at hx; exact List.mem_of_mem_drop hx))
                    have HN := Aside0.mk (And.intro hn (And.intro hlen hm))
                    have LV := Aside0.mk (show vs.length ≤ 2 from by have h1 := HI.out.1; have h2 := HCL.out; omega)
                    clear hrd hn hA3 hdrop hlen hm
                    go_upto_region 19 with (first | ((with_reducible refine gate_callee (f := 27) rfl ?_); refine goesL_ (some 54) rfl rfl Try.func27 (by kernel_rfl) rfl #[.slice A2 r3.length cap2] rfl (by (try simp only [List.map_toArray, List.map_cons, List.map_nil]); first | done | rfl | (simp only [List.length_drop, List.length_take]; rfl)) ?_; (with_reducible refine (boscagelaw24_read.calls 30 A2 cap2 r3 v (m : Int) _ ?rcb ?rlb HRD.out).mono ?_); (case rcb => exact Kd.C_below HC3.out (by repeat (first | (with_reducible first | exact HB.out | apply below_alloc | apply pw_below_drewN | apply below_drew1) | exact HB.out))); (case rlb => exact HI.out.2.2.1); rintro e w' ⟨rfl, ⟨nd, hq⟩⟩; refine ⟨_, rfl, ?_⟩; have n0_ : Aside0 (Kd.R k27 27 w' w.heap.size (fun k_ => k_ ≠ gb) u4 out) := ⟨by rw [hq]; exact Kd.R_drewN HO.out nd⟩; have n1_ : Aside0 (Kd.R (Kd.int .i64) 2 w' w.heap.size (fun _ => True) (.slice Al vs.length co) vs) := ⟨by rw [hq]; exact Kd.R_drewN HV.out nd⟩; have n2_ : Aside0 (w'.heap[gb]? = some (.cells #[.int .u8 (Int.tmod c 4), .int .u8 ((Int.tdiv c 4) % 256), .int .u8 (0), .int .i64 (0), .int .i64 (0), .int .i64 (0)] 27 (0, 0))) := ⟨by rw [hq]; exact blk_drewN Bgb.out nd⟩; have n3_ : Aside0 (Below w.heap.size w w') := ⟨by rw [hq]; exact pw_below_drewN HB.out nd⟩; clear HO HV Bgb HB hq; have HO := n0_; have HV := n1_; have Bgb := n2_; have HB := n3_; clear n0_ n1_ n2_ n3_))
                    have n1_ := Aside0.mk (Kd.R_drew HO.out)
                    have n2_ := Aside0.mk (below_drew1 HB.out)
                    have n3_ := Aside0.mk (Kd.R_drew HV.out)
                    have n4_ := Aside0.mk (blk_drew Bgb.out)
                    clear HO HB HV Bgb
                    have HO := n1_
                    have HB := n2_
                    have HV := n3_
                    have Bgb := n4_
                    clear n1_ n2_ n3_ n4_
                    refine start_ (n := 9) (S := fun w' => True) (ds := []) #[false, false, false, false, false, false, false, false, false] (by kernel_rfl) rfl rfl trivial (fun hHeld => ?_); refine with_tabW tab19 bits19 (fun HT_ HW_ => ?_)
                    generalize World.drew _ = w8 at HO HB HV Bgb hHeld ⊢
                    refine pure_ (i := 0) (N := some 59) (v := ?_) (a' := ?_) #[true, false, false, false, false, false, false, false, false] rfl rfl (any_of HT_.out (by kernel_rfl)) (fun _ _ _ h => h) (Or.inl ⟨by rfl, ?_⟩) ?_ ?_
                    rotate_left
                    · intro w'
                      go_simp
                      with_reducible rfl
                    rotate_left
                    · simp only [Act.put, List.setIfInBounds_toArray, List.set_cons_zero, List.set_cons_succ, i64_w, i32_w]
                      rfl
                    refine pure_ (i := 1) (N := some 60) (v := ?_) (a' := ?_) #[true, true, false, false, false, false, false, false, false] rfl rfl (any_of HT_.out (by kernel_rfl)) (fun _ _ _ h => h) (Or.inl ⟨by rfl, ?_⟩) ?_ ?_
                    rotate_left
                    · intro w'
                      go_simp
                      with_reducible rfl
                    rotate_left
                    · simp only [Act.put, List.setIfInBounds_toArray, List.set_cons_zero, List.set_cons_succ, i64_w, i32_w]
                      rfl
                    refine pure_ (i := 4) (N := some 63) (v := ?_) (a' := ?_) #[true, true, false, false, true, false, false, false, false] rfl rfl (any_of HT_.out (by kernel_rfl)) (fun _ _ _ h => h) (Or.inl ⟨by rfl, ?_⟩) ?_ ?_
                    rotate_left
                    · intro w'
                      go_simp
                      with_reducible rfl
                    rotate_left
                    · simp only [Act.put, List.setIfInBounds_toArray, List.set_cons_zero, List.set_cons_succ, i64_w, i32_w]
                      rfl
                    refine pure_ (i := 5) (N := some 64) (v := ?_) (a' := ?_) #[true, true, false, false, true, true, false, false, false] rfl rfl (any_of HT_.out (by kernel_rfl)) (fun _ _ _ h => h) (Or.inl ⟨by rfl, ?_⟩) ?_ ?_
                    rotate_left
                    · intro w'
                      go_simp
                      with_reducible rfl
                    rotate_left
                    · simp only [Act.put, List.setIfInBounds_toArray, List.set_cons_zero, List.set_cons_succ, i64_w, i32_w]
                      rfl
                    refine pure_ (i := 6) (N := some 65) (v := ?_) (a' := ?_) #[true, true, false, false, true, true, true, false, false] rfl rfl (any_of HT_.out (by kernel_rfl)) (fun _ _ _ h => h) (Or.inl ⟨by rfl, ?_⟩) ?_ ?_
                    rotate_left
                    · intro w'
                      go_simp
                      with_reducible rfl
                    rotate_left
                    · simp only [Act.put, List.setIfInBounds_toArray, List.set_cons_zero, List.set_cons_succ, i64_w, i32_w]
                      rfl
                    refine one_ (i := 2) (N := some 61) #[true, true, true, false, true, true, true, false, false] rfl rfl (one_of HT_.out (by kernel_rfl)) (by decide) (fun K_ hK => ?_)
                    refine value_ (w1 := ?_) (v := ?_) (by rfl) rfl ?_ ?_
                    rotate_left 2
                    · go_simp
                      constructor
                      · rfl
                      · rfl
                    refine hK.out _ _ trivial (fun hHeld => ?_)
                    clear hK K_
                    refine norm_ (a' := ?_) ?_ ?_
                    rotate_left
                    · show Act.put _ (some 61) _ = _
                      simp only [Act.put, List.setIfInBounds_toArray, List.set_cons_zero, List.set_cons_succ, i64_w, i32_w]
                      rfl
                    refine one_ (i := 3) (N := some 62) #[true, true, true, true, true, true, true, false, false] rfl rfl (one_of HT_.out (by kernel_rfl)) (by decide) (fun K_ hK => ?_)
                    refine Kd.R_append_step (Kd.int .i64) (w0 := w) w.heap.size (by rfl) (.tmp 59) (.tmp 61) 44 2 (.int .i64 0) 8 rfl Try.underlying44 info2 rfl (by decide) (by omega) (.slice Al vs.length co) vs v [.int .i64 v] (fun _ => True) (fun _ => False) rfl rfl ?aP (fun _ hk => hk.elim) ?aF ?aO ?aB ?aS ?aL ?_
                    (case aP => exact rfl)
                    (case aB => exact (by repeat (first | (with_reducible first | exact HB.out | apply below_alloc | apply pw_below_drewN | apply below_drew1 | refine below_set ?_ Ggb.out) | exact HB.out)))
                    (case aF => exact (fun _ _ => trivial))
                    (case aO => exact (by ((with_reducible repeat (first | apply Kd.R_alloc | apply Kd.R_drewN | apply Kd.R_drew)); exact HV.out)))
                    (case aS => exact (below_size (by repeat (first | (with_reducible first | exact HB.out | apply below_alloc | apply pw_below_drewN | apply below_drew1 | refine below_set ?_ Ggb.out) | exact HB.out))))
                    (case aL => have := LV.out; omega)
                    intro v246 w47 ho hb hg hat
                    have n0_ := Aside0.mk ho
                    have n1_ := Aside0.mk (Kd.R_over' (by ((with_reducible repeat (first | apply Kd.R_alloc | apply Kd.R_drewN | apply Kd.R_drew)); exact HO.out)) (Kd.R_typed (by ((with_reducible repeat (first | apply Kd.R_alloc | apply Kd.R_drewN | apply Kd.R_drew)); exact HV.out))) (by decide) hg)
                    have n2_ := Aside0.mk (blk_grown (g := gb) (o := .cells #[.int .u8 (Int.tmod c 4), .int .u8 ((Int.tdiv c 4) % 256), .int .u8 (0), .int .i64 (0), .int .i64 (0), .int .i64 (0)] 27 (0, 0)) (by (with_reducible repeat (first | refine blk_drewN ?_ _ | refine blk_drew ?_ | refine blk_alloc ?_ _)); exact Bgb.out) hg (Kd.R_ne HV.out Bgb.out (by decide)))
                    have n3_ := Aside0.mk hb
                    clear HV HO Bgb HB
                    have HV := n0_
                    have HO := n1_
                    have Bgb := n2_
                    have HB := n3_
                    clear n0_ n1_ n2_ n3_ ho hb hg hat
                    obtain ⟨Al5, co5, e5⟩ := Kd.R_slice HV.out
                    subst e5
                    refine hK.out _ _ trivial (fun hHeld => ?_)
                    clear hK K_
                    refine norm_ (a' := ?_) ?_ ?_
                    rotate_left
                    · show Act.put _ (some 62) _ = _
                      simp only [Act.put, List.setIfInBounds_toArray, List.set_cons_zero, List.set_cons_succ, i64_w, i32_w]
                      rfl
                    refine pure_ (i := 7) (N := some 10) (v := ?_) (a' := ?_) #[true, true, true, true, true, true, true, true, false] rfl rfl (any_of HT_.out (by kernel_rfl)) (fun _ _ _ h => h) (Or.inl ⟨by rfl, ?_⟩) ?_ ?_
                    rotate_left
                    · intro w'
                      go_simp
                      with_reducible rfl
                    rotate_left
                    · simp only [Act.put, List.setIfInBounds_toArray, List.set_cons_zero, List.set_cons_succ, i64_w, i32_w]
                      rfl
                    refine pure_ (i := 8) (N := some 0) (v := ?_) (a' := ?_) #[true, true, true, true, true, true, true, true, true] rfl rfl (any_of HT_.out (by kernel_rfl)) (fun _ _ _ h => h) (Or.inl ⟨by rfl, ?_⟩) ?_ ?_
                    rotate_left
                    · intro w'
                      go_simp
                      with_reducible rfl
                    rotate_left
                    · simp only [Act.put, List.setIfInBounds_toArray, List.set_cons_zero, List.set_cons_succ, i64_w, i32_w]
                      rfl
                    refine done_ (done_of HT_.out (by kernel_rfl)) ?_
                    (try go_wp2)
                    go_roundg k2
                    case measure => omega
                    case rel =>
                      have h1 := HN.out.2.1
                      have h2 := HN.out.2.2
                      exact ⟨A3, cap2 - m, r4, vs ++ [v], Al5, co5, rfl, rfl, by simp, ⟨by have := HI.out.1; simp only [List.length_append, List.length_singleton]; omega, by have h := nums?_snoc vs.length r2 vs r3 v r4 HI.out.2.1 HN.out.1; simpa using h, by have := HI.out.2.2.1; omega, by have := HI.out.2.2.2; omega⟩, HC5, HRB4, ⟨by have h := HV.out; rw [List.length_append, List.length_singleton] at h; exact h⟩, HO, Bgb, HB⟩
        · have c8b0 : (Int.tmod c 4 == 0) = false := beq_eq_false_iff_ne.mpr c8
          have c8b1 : (Int.tmod c 4 != 0) = true := bne_iff_ne.mpr c8
          have H8 := Aside0.mk c8
          clear c8
          have LM := Aside0.mk (show out.length < 3518437208883 from by have h := HQ.out.2.2.1; have h2 := HL.out; omega)
          have hcgb0 : World.cell? _ ⟨gb, 0, none⟩ = some (.int .u8 (Int.tmod c 4)) := (blk_cell Bgb.out 0).trans rfl
          have hfgb0 := blk_frozen Bgb.out 0
          have hcgb1 : World.cell? _ ⟨gb, 1, none⟩ = some (.int .u8 ((Int.tdiv c 4) % 256)) := (blk_cell Bgb.out 1).trans rfl
          have hfgb1 := blk_frozen Bgb.out 1
          have hcgb2 : World.cell? _ ⟨gb, 2, none⟩ = some (.int .u8 (0)) := (blk_cell Bgb.out 2).trans rfl
          have hfgb2 := blk_frozen Bgb.out 2
          have hcgb3 : World.cell? _ ⟨gb, 3, none⟩ = some (.int .i64 (0)) := (blk_cell Bgb.out 3).trans rfl
          have hfgb3 := blk_frozen Bgb.out 3
          have hcgb4 : World.cell? _ ⟨gb, 4, none⟩ = some (.int .i64 (0)) := (blk_cell Bgb.out 4).trans rfl
          have hfgb4 := blk_frozen Bgb.out 4
          have hcgb5 : World.cell? _ ⟨gb, 5, none⟩ = some (.int .i64 (0)) := (blk_cell Bgb.out 5).trans rfl
          have hfgb5 := blk_frozen Bgb.out 5

          go_wp2_with (first | ((with_reducible refine gate_builtin (b := .append) (xs := #[.tmp 30, .tmp 32]) rfl ?_); at_builtin; refine Kd.R_append k27 (w0 := w) w.heap.size rfl (.tmp 30) (.tmp 32) 30 27 (.agg #[.int .u8 0, .int .u8 0, .int .u8 0, .int .i64 0, .int .i64 0, .int .i64 0]) 40 rfl Try.underlying30 info27 rfl (by decide) (by omega) u4 out (⟨Int.tmod c 4, (Int.tdiv c 4) % 256, (⟨0, 0, 0, 0⟩ : S25)⟩ : S27) [.int .u8 (Int.tmod c 4), .int .u8 ((Int.tdiv c 4) % 256), .int .u8 (0), .int .i64 (0), .int .i64 (0), .int .i64 (0)] (fun _ => True) (fun _ => False) rfl (by first | (go_simp; done) | (go_simp; rfl)) ?aP0 (fun _ hk => hk.elim) ?aF0 ?aO0 ?aB0 ?aS0 ?aL0 ?_; (case aP0 => exact k27_mkM _ _ _ (⟨Int.tmod c 4, (Int.tdiv c 4) % 256, (⟨0, 0, 0, 0⟩ : S25)⟩ : S27)); (case aF0 => exact (fun _ _ => trivial)); (case aO0 => exact (by (with_reducible repeat (first | apply Kd.R_alloc | apply Kd.R_drewN | apply Kd.R_drew)); exact Kd.R_mono HO.out (fun _ _ => trivial))); (case aB0 => exact (by repeat (first | (with_reducible first | exact HB.out | apply below_alloc | apply pw_below_drewN | apply below_drew1) | exact HB.out))); (case aS0 => exact (below_size (by repeat (first | (with_reducible first | exact HB.out | apply below_alloc | apply pw_below_drewN | apply below_drew1) | exact HB.out)))); (case aL0 => have := LM.out; omega); intro v5_ w5 ho hb hg hat; have n0_ := Aside0.mk ho; have n1_ := Aside0.mk hb; clear HO HB; have HO := n0_; have HB := n1_; clear n0_ n1_ ho hb hg hat))
          go_roundg k1
          case measure => omega
          case rel =>
            have hD : dec (k1 + 1) (c :: r) = (⟨c % 4, c / 4, ⟨0, 0, 0, 0⟩⟩ :: (dec k1 r).1, (dec k1 r).2) := by
              rw [dec]; unfold one?; rw [if_neg (by rw [← HC4.out.1]; exact H8.out)]
            exact ⟨A1, cap - 1, r, _, bad, rfl, rfl, ⟨by have := HK.out.1; simp only [List.length_cons] at this; omega, by have := HK.out.2.1; simp only [List.length_cons] at this; omega, by have := HK.out.2.2; omega⟩, HC1, HRB,
              ⟨by rw [HQ.out.1, hD, HC4.out.1, HC4.out.2]; simp, by rw [HQ.out.2.1, hD], by have := HQ.out.2.2.1; simp only [List.length_append, List.length_singleton]; omega, HQ.out.2.2.2.1, by have := HQ.out.2.2.2.2; omega⟩, HO, HB⟩
end Go.Proofs.Ytkommjibpeklgaa.PScriptDecodes
