/- Words and contracts that the claim stands on, part 5 of 7. -/
import Derived.Test.YthlmgbdknjilpaaGreatGAskKinds0
import Derived.Test.YthlmgbdknjilpaaGreatGAskKinds1
import Derived.Test.YthlmgbdknjilpaaGreatGAskKinds2
import Derived.Test.YthlmgbdknjilpaaGreatGAskKinds3
import Derived.OwnWalk
namespace Go.Proofs.YthlmgbdknjilpaaGreat.PAskKinds
open Go.RowKit Go.Proofs.YthlmgbdknjilpaaGreatW.PrintWords Go.Proofs.YthlmgbdknjilpaaGreatW.PrintLast Go.Proofs.YthlmgbdknjilpaaGreatW.PrintMore
attribute [local go_sem] max2_int min2_int max_two min_two max_three min_three max_four min_four
set_option linter.unusedVariables false
set_option linter.unusedSimpArgs false
mutual
def boscagelaw11_Same.j0 : Nat → Bool → Bool → Bool → List (S31) → List Int → List (S42) → Bool → Bool → List (S31) → List Int → List (S42) → Option (Bool)
  | 0, _, _, _, _, _, _, _, _, _, _, _ => none
  | k + 1, x44, x252000, x252001, x252002, x252003, x252004, x253000, x253001, x253002, x253003, x253004 => if x44 = true then (some false) else (boscagelaw11_Same.l0 k (x252003.length : Int) 0 x252000 x252001 x252002 x252003 x252004 x253000 x253001 x253002 x253003 x253004)
def boscagelaw11_Same.l0 : Nat → Int → Int → Bool → Bool → List (S31) → List Int → List (S42) → Bool → Bool → List (S31) → List Int → List (S42) → Option (Bool)
  | 0, _, _, _, _, _, _, _, _, _, _, _, _ => none
  | k + 1, x47, x48, x252000, x252001, x252002, x252003, x252004, x253000, x253001, x253002, x253003, x253004 => if x48 < x47 then (if 0 ≤ x48 then (if x48 < (x252003.length : Int) then (if x48 < (x253003.length : Int) then (if (rd x252003 x48) = (rd x253003 x48) then (boscagelaw11_Same.l0 k x47 (wrap64 (x48 + 1)) x252000 x252001 x252002 x252003 x252004 x253000 x253001 x253002 x253003 x253004) else (some false)) else (none)) else (none)) else (none)) else (boscagelaw11_Same.l1 k (x252004.length : Int) 0 x252000 x252001 x252002 x252003 x252004 x253000 x253001 x253002 x253003 x253004)
def boscagelaw11_Same.l1 : Nat → Int → Int → Bool → Bool → List (S31) → List Int → List (S42) → Bool → Bool → List (S31) → List Int → List (S42) → Option (Bool)
  | 0, _, _, _, _, _, _, _, _, _, _, _, _ => none
  | k + 1, x65, x66, x252000, x252001, x252002, x252003, x252004, x253000, x253001, x253002, x253003, x253004 => if x66 < x65 then (if 0 ≤ x66 then (if x66 < (x252004.length : Int) then (if x66 < (x253004.length : Int) then ((boscagelaw11_Same.f k ((rd_T42 x252004 x66).f0) ((rd_T42 x252004 x66).f1) ((rd_T42 x252004 x66).f2) ((rd_T42 x252004 x66).f3) ((rd_T42 x252004 x66).f4) ((rd_T42 x253004 x66).f0) ((rd_T42 x253004 x66).f1) ((rd_T42 x253004 x66).f2) ((rd_T42 x253004 x66).f3) ((rd_T42 x253004 x66).f4)).bind fun t258 => (if t258 = true then (boscagelaw11_Same.l1 k x65 (wrap64 (x66 + 1)) x252000 x252001 x252002 x252003 x252004 x253000 x253001 x253002 x253003 x253004) else (some false))) else (none)) else (none)) else (none)) else (some true)
def boscagelaw11_Same.f : Nat → Bool → Bool → List (S31) → List Int → List (S42) → Bool → Bool → List (S31) → List Int → List (S42) → Option (Bool)
  | 0, _, _, _, _, _, _, _, _, _, _ => none
  | k + 1, a0_0, a0_1, l0_2, l0_3, l0_4, a1_0, a1_1, l1_2, l1_3, l1_4 => if (a0_0 != a1_0) = true then (boscagelaw11_Same.j0 k true a0_0 a0_1 l0_2 l0_3 l0_4 a1_0 a1_1 l1_2 l1_3 l1_4) else (if (a0_1 != a1_1) = true then (boscagelaw11_Same.j0 k true a0_0 a0_1 l0_2 l0_3 l0_4 a1_0 a1_1 l1_2 l1_3 l1_4) else ((boscagelaw02_Same.f k l0_2 l1_2).bind fun t253 => (if t253 = true then (if (l0_3.length : Int) = (l1_3.length : Int) then (boscagelaw11_Same.j0 k ((l0_4.length : Int) != (l1_4.length : Int)) a0_0 a0_1 l0_2 l0_3 l0_4 a1_0 a1_1 l1_2 l1_3 l1_4) else (boscagelaw11_Same.j0 k true a0_0 a0_1 l0_2 l0_3 l0_4 a1_0 a1_1 l1_2 l1_3 l1_4)) else (boscagelaw11_Same.j0 k true a0_0 a0_1 l0_2 l0_3 l0_4 a1_0 a1_1 l1_2 l1_3 l1_4))))
end
theorem boscagelaw11_Same.mono_l : ∀ k, (∀ y0 y1 y2 y3 y4 y5 y6 y7 y8 y9, LeO (boscagelaw11_Same.f k y0 y1 y2 y3 y4 y5 y6 y7 y8 y9) (boscagelaw11_Same.f (k + 1) y0 y1 y2 y3 y4 y5 y6 y7 y8 y9)) ∧ (∀ y0 y1 y2 y3 y4 y5 y6 y7 y8 y9 y10, LeO (boscagelaw11_Same.j0 k y0 y1 y2 y3 y4 y5 y6 y7 y8 y9 y10) (boscagelaw11_Same.j0 (k + 1) y0 y1 y2 y3 y4 y5 y6 y7 y8 y9 y10)) ∧ (∀ y0 y1 y2 y3 y4 y5 y6 y7 y8 y9 y10 y11, LeO (boscagelaw11_Same.l0 k y0 y1 y2 y3 y4 y5 y6 y7 y8 y9 y10 y11) (boscagelaw11_Same.l0 (k + 1) y0 y1 y2 y3 y4 y5 y6 y7 y8 y9 y10 y11)) ∧ (∀ y0 y1 y2 y3 y4 y5 y6 y7 y8 y9 y10 y11, LeO (boscagelaw11_Same.l1 k y0 y1 y2 y3 y4 y5 y6 y7 y8 y9 y10 y11) (boscagelaw11_Same.l1 (k + 1) y0 y1 y2 y3 y4 y5 y6 y7 y8 y9 y10 y11))
  | 0 => ⟨fun _ _ _ _ _ _ _ _ _ _ r h => by simp [boscagelaw11_Same.f] at h, fun _ _ _ _ _ _ _ _ _ _ _ r h => by simp [boscagelaw11_Same.j0] at h, fun _ _ _ _ _ _ _ _ _ _ _ _ r h => by simp [boscagelaw11_Same.l0] at h, fun _ _ _ _ _ _ _ _ _ _ _ _ r h => by simp [boscagelaw11_Same.l1] at h⟩
  | k + 1 => by
    obtain ⟨ih0, ih1, ih2, ih3⟩ := boscagelaw11_Same.mono_l k
    refine ⟨?_, ?_, ?_, ?_⟩
    · intro y0 y1 y2 y3 y4 y5 y6 y7 y8 y9
      unfold boscagelaw11_Same.f
      repeat' first
      | (with_reducible exact ih0 _ _ _ _ _ _ _ _ _ _)
      | (with_reducible exact ih1 _ _ _ _ _ _ _ _ _ _ _)
      | (with_reducible exact ih2 _ _ _ _ _ _ _ _ _ _ _ _)
      | (with_reducible exact ih3 _ _ _ _ _ _ _ _ _ _ _ _)
      | (with_reducible exact boscagelaw02_Same.mono _ _ _)
      | (with_reducible exact LeO.refl _)
      | (with_reducible exact LeO.none _)
      | (with_reducible refine LeO.ite ?_ ?_)
      | (with_reducible refine LeO.bind ?_ (fun _ => ?_))
      | exact ih0 _ _ _ _ _ _ _ _ _ _
      | exact ih1 _ _ _ _ _ _ _ _ _ _ _
      | exact ih2 _ _ _ _ _ _ _ _ _ _ _ _
      | exact ih3 _ _ _ _ _ _ _ _ _ _ _ _
      | exact boscagelaw02_Same.mono _ _ _
      | exact LeO.none _
      | refine LeO.ite ?_ ?_
      | refine LeO.bind ?_ (fun _ => ?_)
    · intro y0 y1 y2 y3 y4 y5 y6 y7 y8 y9 y10
      unfold boscagelaw11_Same.j0
      repeat' first
      | (with_reducible exact ih0 _ _ _ _ _ _ _ _ _ _)
      | (with_reducible exact ih1 _ _ _ _ _ _ _ _ _ _ _)
      | (with_reducible exact ih2 _ _ _ _ _ _ _ _ _ _ _ _)
      | (with_reducible exact ih3 _ _ _ _ _ _ _ _ _ _ _ _)
      | (with_reducible exact boscagelaw02_Same.mono _ _ _)
      | (with_reducible exact LeO.refl _)
      | (with_reducible exact LeO.none _)
      | (with_reducible refine LeO.ite ?_ ?_)
      | (with_reducible refine LeO.bind ?_ (fun _ => ?_))
      | exact ih0 _ _ _ _ _ _ _ _ _ _
      | exact ih1 _ _ _ _ _ _ _ _ _ _ _
      | exact ih2 _ _ _ _ _ _ _ _ _ _ _ _
      | exact ih3 _ _ _ _ _ _ _ _ _ _ _ _
      | exact boscagelaw02_Same.mono _ _ _
      | exact LeO.none _
      | refine LeO.ite ?_ ?_
      | refine LeO.bind ?_ (fun _ => ?_)
    · intro y0 y1 y2 y3 y4 y5 y6 y7 y8 y9 y10 y11
      unfold boscagelaw11_Same.l0
      repeat' first
      | (with_reducible exact ih0 _ _ _ _ _ _ _ _ _ _)
      | (with_reducible exact ih1 _ _ _ _ _ _ _ _ _ _ _)
      | (with_reducible exact ih2 _ _ _ _ _ _ _ _ _ _ _ _)
      | (with_reducible exact ih3 _ _ _ _ _ _ _ _ _ _ _ _)
      | (with_reducible exact boscagelaw02_Same.mono _ _ _)
      | (with_reducible exact LeO.refl _)
      | (with_reducible exact LeO.none _)
      | (with_reducible refine LeO.ite ?_ ?_)
      | (with_reducible refine LeO.bind ?_ (fun _ => ?_))
      | exact ih0 _ _ _ _ _ _ _ _ _ _
      | exact ih1 _ _ _ _ _ _ _ _ _ _ _
      | exact ih2 _ _ _ _ _ _ _ _ _ _ _ _
      | exact ih3 _ _ _ _ _ _ _ _ _ _ _ _
      | exact boscagelaw02_Same.mono _ _ _
      | exact LeO.none _
      | refine LeO.ite ?_ ?_
      | refine LeO.bind ?_ (fun _ => ?_)
    · intro y0 y1 y2 y3 y4 y5 y6 y7 y8 y9 y10 y11
      unfold boscagelaw11_Same.l1
      repeat' first
      | (with_reducible exact ih0 _ _ _ _ _ _ _ _ _ _)
      | (with_reducible exact ih1 _ _ _ _ _ _ _ _ _ _ _)
      | (with_reducible exact ih2 _ _ _ _ _ _ _ _ _ _ _ _)
      | (with_reducible exact ih3 _ _ _ _ _ _ _ _ _ _ _ _)
      | (with_reducible exact boscagelaw02_Same.mono _ _ _)
      | (with_reducible exact LeO.refl _)
      | (with_reducible exact LeO.none _)
      | (with_reducible refine LeO.ite ?_ ?_)
      | (with_reducible refine LeO.bind ?_ (fun _ => ?_))
      | exact ih0 _ _ _ _ _ _ _ _ _ _
      | exact ih1 _ _ _ _ _ _ _ _ _ _ _
      | exact ih2 _ _ _ _ _ _ _ _ _ _ _ _
      | exact ih3 _ _ _ _ _ _ _ _ _ _ _ _
      | exact boscagelaw02_Same.mono _ _ _
      | exact LeO.none _
      | refine LeO.ite ?_ ?_
      | refine LeO.bind ?_ (fun _ => ?_)
theorem boscagelaw11_Same.mono : ∀ a0 a1 a2 a3 a4 a5 a6 a7 a8 a9 k, LeO (boscagelaw11_Same.f k a0 a1 a2 a3 a4 a5 a6 a7 a8 a9) (boscagelaw11_Same.f (k + 1) a0 a1 a2 a3 a4 a5 a6 a7 a8 a9) := by
  intro a0 a1 a2 a3 a4 a5 a6 a7 a8 a9 k
  obtain ⟨ih0, ih1, ih2, ih3⟩ := boscagelaw11_Same.mono_l k
  exact ih0 a0 a1 a2 a3 a4 a5 a6 a7 a8 a9
def boscagelaw11_Same.T6 : Bool × List (List Nat × List Nat) := (true, [([], []), ([0], [0]), ([], []), ([1, 2], [1, 2]), ([3], [3]), ([], []), ([5], [5]), ([], []), ([6, 7], [6, 7]), ([8], [8]), ([4, 9], [4, 9])])
def boscagelaw11_Same.B6 : List Nat := [0, 1, 0, 7, 15, 0, 32, 0, 224, 480, 1023]
theorem boscagelaw11_Same.tab6 : rtab .any (opsOf Tryz.f17 6) = boscagelaw11_Same.T6 := by kernel_rfl
theorem boscagelaw11_Same.bits6 : waitsOk boscagelaw11_Same.T6.2 boscagelaw11_Same.B6 = true := by kernel_rfl
def boscagelaw11_Same.T12 : Bool × List (List Nat × List Nat) := (true, [([], []), ([0], [0]), ([], []), ([1, 2], [1, 2]), ([3], [3]), ([], []), ([5], [5]), ([], []), ([6, 7], [6, 7]), ([8], [8]), ([4, 9], [4, 9]), ([10], [10])])
def boscagelaw11_Same.B12 : List Nat := [0, 1, 0, 7, 15, 0, 32, 0, 224, 480, 1023, 2047]
theorem boscagelaw11_Same.tab12 : rtab .any (opsOf Tryz.f17 12) = boscagelaw11_Same.T12 := by kernel_rfl
theorem boscagelaw11_Same.bits12 : waitsOk boscagelaw11_Same.T12.2 boscagelaw11_Same.B12 = true := by kernel_rfl
set_option maxHeartbeats 8000000 in
set_option maxRecDepth 100000 in
theorem boscagelaw11_Same.calls (k : Nat) : ∀ (a0_0 : Bool) (a0_1 : Bool) (A0_2 : Option Addr) (c0_2 : Nat) (l0_2 : List (S31)) (A0_3 : Option Addr) (c0_3 : Nat) (l0_3 : List Int) (A0_4 : Option Addr) (c0_4 : Nat) (l0_4 : List (S42)) (a1_0 : Bool) (a1_1 : Bool) (A1_2 : Option Addr) (c1_2 : Nat) (l1_2 : List (S31)) (A1_3 : Option Addr) (c1_3 : Nat) (l1_3 : List Int) (A1_4 : Option Addr) (c1_4 : Nat) (l1_4 : List (S42)) (r : Bool) (w : World) (hr0_2 : Kd.C k31 w A0_2 l0_2.length l0_2) (hc0_2 : l0_2.length ≤ c0_2) (hr0_3 : Kd.C (Kd.int .i64) w A0_3 l0_3.length l0_3) (hc0_3 : l0_3.length ≤ c0_3) (hr0_4 : Kd.C k42 w A0_4 l0_4.length l0_4) (hc0_4 : l0_4.length ≤ c0_4) (hr1_2 : Kd.C k31 w A1_2 l1_2.length l1_2) (hc1_2 : l1_2.length ≤ c1_2) (hr1_3 : Kd.C (Kd.int .i64) w A1_3 l1_3.length l1_3) (hc1_3 : l1_3.length ≤ c1_3) (hr1_4 : Kd.C k42 w A1_4 l1_4.length l1_4) (hc1_4 : l1_4.length ≤ c1_4) (h : boscagelaw11_Same.f k a0_0 a0_1 l0_2 l0_3 l0_4 a1_0 a1_1 l1_2 l1_3 l1_4 = some r),
    Calls Tryz.prog 17 #[.agg #[.bool a0_0, .bool a0_1, .slice A0_2 l0_2.length c0_2, .slice A0_3 l0_3.length c0_3, .slice A0_4 l0_4.length c0_4], .agg #[.bool a1_0, .bool a1_1, .slice A1_2 l1_2.length c1_2, .slice A1_3 l1_3.length c1_3, .slice A1_4 l1_4.length c1_4]] w fun e w' => e = .returned (.bool r) ∧ Below w.heap.size w w' := by
  induction k using Nat.strongRecOn with
  | _ k ih =>
  intro a0_0 a0_1 A0_2 c0_2 l0_2 A0_3 c0_3 l0_3 A0_4 c0_4 l0_4 a1_0 a1_1 A1_2 c1_2 l1_2 A1_3 c1_3 l1_3 A1_4 c1_4 l1_4 r w hr0_2 hc0_2 hr0_3 hc0_3 hr0_4 hc0_4 hr1_2 hc1_2 hr1_3 hc1_3 hr1_4 hc1_4 h
  cases k with
  | zero => exact absurd h (by simp [boscagelaw11_Same.f])
  | succ k =>
  simp only [boscagelaw11_Same.f] at h
  have hu42 := Tryz.underlying42
  have HR0_2 := Aside0.mk hr0_2
  have HC0_2 := Aside0.mk hc0_2
  clear hr0_2 hc0_2
  have HR0_3 := Aside0.mk hr0_3
  have HC0_3 := Aside0.mk hc0_3
  clear hr0_3 hc0_3
  have HR0_4 := Aside0.mk hr0_4
  have HC0_4 := Aside0.mk hc0_4
  clear hr0_4 hc0_4
  have HR1_2 := Aside0.mk hr1_2
  have HC1_2 := Aside0.mk hc1_2
  clear hr1_2 hc1_2
  have HR1_3 := Aside0.mk hr1_3
  have HC1_3 := Aside0.mk hc1_3
  clear hr1_3 hc1_3
  have HR1_4 := Aside0.mk hr1_4
  have HC1_4 := Aside0.mk hc1_4
  clear hr1_4 hc1_4
  have HB := Aside0.mk (Below.refl w.heap.size w)
  have H : (if (a0_0 != a1_0) = true then (boscagelaw11_Same.j0 k true a0_0 a0_1 l0_2 l0_3 l0_4 a1_0 a1_1 l1_2 l1_3 l1_4) else (if (a0_1 != a1_1) = true then (boscagelaw11_Same.j0 k true a0_0 a0_1 l0_2 l0_3 l0_4 a1_0 a1_1 l1_2 l1_3 l1_4) else ((boscagelaw02_Same.f k l0_2 l1_2).bind fun t253 => (if t253 = true then (if (l0_3.length : Int) = (l1_3.length : Int) then (boscagelaw11_Same.j0 k ((l0_4.length : Int) != (l1_4.length : Int)) a0_0 a0_1 l0_2 l0_3 l0_4 a1_0 a1_1 l1_2 l1_3 l1_4) else (boscagelaw11_Same.j0 k true a0_0 a0_1 l0_2 l0_3 l0_4 a1_0 a1_1 l1_2 l1_3 l1_4)) else (boscagelaw11_Same.j0 k true a0_0 a0_1 l0_2 l0_3 l0_4 a1_0 a1_1 l1_2 l1_3 l1_4))))) = some r := h
  clear h
  have HC3 := Aside0.mk H
  clear H
  go_enter Tryz.func17, Tryz.ntmps17
  go_upto_region 1 with (first | ((with_reducible refine gate_dst (N := 2) rfl ?_); (try (refine gate_guard (by rfl) ?_; dsimp only)); refine box_event ?hg (N := 2) ?hd (cs := #[.bool a0_0, .bool a0_1, .slice A0_2 l0_2.length c0_2, .slice A0_3 l0_3.length c0_3, .slice A0_4 l0_4.length c0_4]) (t := 42) ?hr ?_; (case hd => rfl); (case hg => rfl); (case hr => first | (go_simp; done) | (go_simp; rfl)); intro gb251 hg w4 hbox hb; have n0_ := Aside0.mk (below_step (by repeat (first | (with_reducible first | exact HB.out | apply below_alloc | apply pw_below_drewN | apply below_drew1) | exact HB.out)) hb); have n1_ := Aside0.mk (hbox); have n2_ := Aside0.mk ((by rw [hg]; exact (below_size (by repeat (first | (with_reducible first | exact HB.out | apply below_alloc | apply pw_below_drewN | apply below_drew1) | exact HB.out))) : w.heap.size ≤ gb251)); have n3_ := Aside0.mk ((by rw [hg]; exact (below_size (by repeat (first | (with_reducible first | exact HB.out | apply below_alloc | apply pw_below_drewN | apply below_drew1) | exact HB.out))) : w.heap.size ≤ gb251)); clear HB; have HB := n0_; have BK251 := n1_; have GW251 := n2_; have GE251 := n3_; clear n0_ n1_ n2_ n3_; clear hb hbox hg) | ((with_reducible refine gate_dst (N := 3) rfl ?_); (try (refine gate_guard (by rfl) ?_; dsimp only)); refine box_event ?hg (N := 3) ?hd (cs := #[.bool a1_0, .bool a1_1, .slice A1_2 l1_2.length c1_2, .slice A1_3 l1_3.length c1_3, .slice A1_4 l1_4.length c1_4]) (t := 42) ?hr ?_; (case hd => rfl); (case hg => rfl); (case hr => first | (go_simp; done) | (go_simp; rfl)); intro gb252 hg w5 hbox hb; have n0_ := Aside0.mk (blk_below (g := gb251) (o := .cells #[.bool a0_0, .bool a0_1, .slice A0_2 l0_2.length c0_2, .slice A0_3 l0_3.length c0_3, .slice A0_4 l0_4.length c0_4] 42 (0, 0)) (by (with_reducible repeat (first | refine blk_drewN ?_ _ | refine blk_drew ?_ | refine blk_alloc ?_ _)); exact BK251.out) hb); have n1_ := Aside0.mk (below_step (by repeat (first | (with_reducible first | exact HB.out | apply below_alloc | apply pw_below_drewN | apply below_drew1 | refine below_set ?_ GE251.out) | exact HB.out)) hb); have n2_ := Aside0.mk (hbox); have n3_ := Aside0.mk ((by rw [hg]; exact (below_size (by repeat (first | (with_reducible first | exact HB.out | apply below_alloc | apply pw_below_drewN | apply below_drew1 | refine below_set ?_ GE251.out) | exact HB.out))) : w.heap.size ≤ gb252)); have n4_ := Aside0.mk ((by rw [hg]; exact (below_size (by repeat (first | (with_reducible first | exact HB.out | apply below_alloc | apply pw_below_drewN | apply below_drew1 | refine below_set ?_ GE251.out) | exact HB.out))) : w.heap.size ≤ gb252)); have n5_ := Aside0.mk ((by rw [hg]; exact Nat.ne_of_lt (blk_lt (g := gb251) (o := .cells #[.bool a0_0, .bool a0_1, .slice A0_2 l0_2.length c0_2, .slice A0_3 l0_3.length c0_3, .slice A0_4 l0_4.length c0_4] 42 (0, 0)) (by (with_reducible repeat (first | refine blk_drewN ?_ _ | refine blk_drew ?_ | refine blk_alloc ?_ _)); exact BK251.out)) : gb251 ≠ gb252)); have n6_ := Aside0.mk ((by rw [hg]; exact Nat.ne_of_gt (blk_lt (g := gb251) (o := .cells #[.bool a0_0, .bool a0_1, .slice A0_2 l0_2.length c0_2, .slice A0_3 l0_3.length c0_3, .slice A0_4 l0_4.length c0_4] 42 (0, 0)) (by (with_reducible repeat (first | refine blk_drewN ?_ _ | refine blk_drew ?_ | refine blk_alloc ?_ _)); exact BK251.out)) : gb252 ≠ gb251)); clear BK251; clear HB; have BK251 := n0_; have HB := n1_; have BK252 := n2_; have GW252 := n3_; have GE252 := n4_; have NB251_252 := n5_; have NB252_251 := n6_; clear n0_ n1_ n2_ n3_ n4_ n5_ n6_; clear hb hbox hg))
  (try simp only [Act.put, u1_, u2_, u3_])
  go_cut [44] (fun v44 wc => ∃ (kq : Nat) (x44_2 : Bool), v44 = .bool x44_2 ∧ Aside0 (boscagelaw11_Same.j0 kq x44_2 a0_0 a0_1 l0_2 l0_3 l0_4 a1_0 a1_1 l1_2 l1_3 l1_4 = some r) ∧ Aside0 (kq ≤ k) ∧ Aside0 (wc.heap[gb251]? = some (.cells #[.bool a0_0, .bool a0_1, (.slice A0_2 l0_2.length c0_2), (.slice A0_3 l0_3.length c0_3), (.slice A0_4 l0_4.length c0_4)] 42 (0, 0))) ∧ Aside0 (wc.heap[gb252]? = some (.cells #[.bool a1_0, .bool a1_1, (.slice A1_2 l1_2.length c1_2), (.slice A1_3 l1_3.length c1_3), (.slice A1_4 l1_4.length c1_4)] 42 (0, 0))) ∧ Aside0 (Below w.heap.size w wc))
  case first =>
    have H := HC3.out
    clear HC3
    by_cases c6 : (a0_0 != a1_0) = true
    · rw [if_pos c6] at H
      have c6b0 : (a0_0 != a1_0) = true := c6
      (try (have c6b1 : decide (a0_0 = a1_0) = false := by simpa using c6))
      (try (have c6b2 : (a0_0 == a1_0) = false := by simpa using c6))
      (try (have c6b3 : ¬ (a0_0 = a1_0) := by simpa using c6))
      clear c6
      (first | rw [c6b0] | (simp only [i64_w, i32_w]; rw [c6b0]) | skip)
      have H' := Aside0.mk H
      clear H
      have hnb7 := NB251_252.out
      have hnc7 := NB252_251.out
      have hcz8_0 : w5.cell? ⟨gb251, 0, none⟩ = some (.bool a0_0) := (blk_cell BK251.out 0).trans rfl
      have hcz8_1 : w5.cell? ⟨gb251, 1, none⟩ = some (.bool a0_1) := (blk_cell BK251.out 1).trans rfl
      have hcz8_2 : w5.cell? ⟨gb251, 2, none⟩ = some (.slice A0_2 l0_2.length c0_2) := (blk_cell BK251.out 2).trans rfl
      have hcz8_3 : w5.cell? ⟨gb251, 3, none⟩ = some (.slice A0_3 l0_3.length c0_3) := (blk_cell BK251.out 3).trans rfl
      have hcz8_4 : w5.cell? ⟨gb251, 4, none⟩ = some (.slice A0_4 l0_4.length c0_4) := (blk_cell BK251.out 4).trans rfl
      have hfz8_0 := blk_frozen BK251.out 0
      have hfz8_1 := blk_frozen BK251.out 1
      have hfz8_2 := blk_frozen BK251.out 2
      have hfz8_3 := blk_frozen BK251.out 3
      have hfz8_4 := blk_frozen BK251.out 4
      have hcz9_0 : w5.cell? ⟨gb252, 0, none⟩ = some (.bool a1_0) := (blk_cell BK252.out 0).trans rfl
      have hcz9_1 : w5.cell? ⟨gb252, 1, none⟩ = some (.bool a1_1) := (blk_cell BK252.out 1).trans rfl
      have hcz9_2 : w5.cell? ⟨gb252, 2, none⟩ = some (.slice A1_2 l1_2.length c1_2) := (blk_cell BK252.out 2).trans rfl
      have hcz9_3 : w5.cell? ⟨gb252, 3, none⟩ = some (.slice A1_3 l1_3.length c1_3) := (blk_cell BK252.out 3).trans rfl
      have hcz9_4 : w5.cell? ⟨gb252, 4, none⟩ = some (.slice A1_4 l1_4.length c1_4) := (blk_cell BK252.out 4).trans rfl
      have hfz9_0 := blk_frozen BK252.out 0
      have hfz9_1 := blk_frozen BK252.out 1
      have hfz9_2 := blk_frozen BK252.out 2
      have hfz9_3 := blk_frozen BK252.out 3
      have hfz9_4 := blk_frozen BK252.out 4
      go_wp2
      go_meet
      case rel => exact ⟨_, (true), (by first | rfl | (simp; done) | (simp [*]; done)), H', ⟨by first | omega | exact Nat.le_refl _⟩, ⟨by (with_reducible repeat (first | refine blk_drewN ?_ _ | refine blk_drew ?_ | refine blk_alloc ?_ _)); exact BK251.out⟩, ⟨by (with_reducible repeat (first | refine blk_drewN ?_ _ | refine blk_drew ?_ | refine blk_alloc ?_ _)); exact BK252.out⟩, ⟨by repeat (first | (with_reducible first | exact HB.out | apply below_alloc | apply pw_below_drewN | apply below_drew1 | refine below_set ?_ GE251.out | refine below_set ?_ GE252.out) | exact HB.out)⟩⟩
    · rw [if_neg c6] at H
      have c6b0 : (a0_0 != a1_0) = false := by simpa using c6
      (try (have c6b1 : decide (a0_0 = a1_0) = true := by simpa using c6))
      (try (have c6b2 : (a0_0 == a1_0) = true := by simpa using c6))
      clear c6
      (first | rw [c6b0] | (simp only [i64_w, i32_w]; rw [c6b0]) | skip)
      by_cases c10 : (a0_1 != a1_1) = true
      · rw [if_pos c10] at H
        have c10b0 : (a0_1 != a1_1) = true := c10
        (try (have c10b1 : decide (a0_1 = a1_1) = false := by simpa using c10))
        (try (have c10b2 : (a0_1 == a1_1) = false := by simpa using c10))
        (try (have c10b3 : ¬ (a0_1 = a1_1) := by simpa using c10))
        clear c10
        have H' := Aside0.mk H
        clear H
        have hnb11 := NB251_252.out
        have hnc11 := NB252_251.out
        have hcz12_0 : w5.cell? ⟨gb251, 0, none⟩ = some (.bool a0_0) := (blk_cell BK251.out 0).trans rfl
        have hcz12_1 : w5.cell? ⟨gb251, 1, none⟩ = some (.bool a0_1) := (blk_cell BK251.out 1).trans rfl
        have hcz12_2 : w5.cell? ⟨gb251, 2, none⟩ = some (.slice A0_2 l0_2.length c0_2) := (blk_cell BK251.out 2).trans rfl
        have hcz12_3 : w5.cell? ⟨gb251, 3, none⟩ = some (.slice A0_3 l0_3.length c0_3) := (blk_cell BK251.out 3).trans rfl
        have hcz12_4 : w5.cell? ⟨gb251, 4, none⟩ = some (.slice A0_4 l0_4.length c0_4) := (blk_cell BK251.out 4).trans rfl
        have hfz12_0 := blk_frozen BK251.out 0
        have hfz12_1 := blk_frozen BK251.out 1
        have hfz12_2 := blk_frozen BK251.out 2
        have hfz12_3 := blk_frozen BK251.out 3
        have hfz12_4 := blk_frozen BK251.out 4
        have hcz13_0 : w5.cell? ⟨gb252, 0, none⟩ = some (.bool a1_0) := (blk_cell BK252.out 0).trans rfl
        have hcz13_1 : w5.cell? ⟨gb252, 1, none⟩ = some (.bool a1_1) := (blk_cell BK252.out 1).trans rfl
        have hcz13_2 : w5.cell? ⟨gb252, 2, none⟩ = some (.slice A1_2 l1_2.length c1_2) := (blk_cell BK252.out 2).trans rfl
        have hcz13_3 : w5.cell? ⟨gb252, 3, none⟩ = some (.slice A1_3 l1_3.length c1_3) := (blk_cell BK252.out 3).trans rfl
        have hcz13_4 : w5.cell? ⟨gb252, 4, none⟩ = some (.slice A1_4 l1_4.length c1_4) := (blk_cell BK252.out 4).trans rfl
        have hfz13_0 := blk_frozen BK252.out 0
        have hfz13_1 := blk_frozen BK252.out 1
        have hfz13_2 := blk_frozen BK252.out 2
        have hfz13_3 := blk_frozen BK252.out 3
        have hfz13_4 := blk_frozen BK252.out 4
        go_wp2
        go_meet
        case rel => exact ⟨_, (true), (by first | rfl | (simp; done) | (simp [*]; done)), H', ⟨by first | omega | exact Nat.le_refl _⟩, ⟨by (with_reducible repeat (first | refine blk_drewN ?_ _ | refine blk_drew ?_ | refine blk_alloc ?_ _)); exact BK251.out⟩, ⟨by (with_reducible repeat (first | refine blk_drewN ?_ _ | refine blk_drew ?_ | refine blk_alloc ?_ _)); exact BK252.out⟩, ⟨by repeat (first | (with_reducible first | exact HB.out | apply below_alloc | apply pw_below_drewN | apply below_drew1 | refine below_set ?_ GE251.out | refine below_set ?_ GE252.out) | exact HB.out)⟩⟩
      · rw [if_neg c10] at H
        have c10b0 : (a0_1 != a1_1) = false := by simpa using c10
        (try (have c10b1 : decide (a0_1 = a1_1) = true := by simpa using c10))
        (try (have c10b2 : (a0_1 == a1_1) = true := by simpa using c10))
        clear c10
        replace H := Option.bind_eq_some_iff.mp H
        obtain ⟨t253, A140, H⟩ := H
        replace H : (if t253 = true then (if (l0_3.length : Int) = (l1_3.length : Int) then (boscagelaw11_Same.j0 k ((l0_4.length : Int) != (l1_4.length : Int)) a0_0 a0_1 l0_2 l0_3 l0_4 a1_0 a1_1 l1_2 l1_3 l1_4) else (boscagelaw11_Same.j0 k true a0_0 a0_1 l0_2 l0_3 l0_4 a1_0 a1_1 l1_2 l1_3 l1_4)) else (boscagelaw11_Same.j0 k true a0_0 a0_1 l0_2 l0_3 l0_4 a1_0 a1_1 l1_2 l1_3 l1_4)) = some r := H
        have A14 := Aside0.mk A140
        clear A140
        by_cases c15 : t253 = true
        · subst c15
          have H1 : (if (l0_3.length : Int) = (l1_3.length : Int) then (boscagelaw11_Same.j0 k ((l0_4.length : Int) != (l1_4.length : Int)) a0_0 a0_1 l0_2 l0_3 l0_4 a1_0 a1_1 l1_2 l1_3 l1_4) else (boscagelaw11_Same.j0 k true a0_0 a0_1 l0_2 l0_3 l0_4 a1_0 a1_1 l1_2 l1_3 l1_4)) = some r := by rw [if_pos rfl] at H; exact H
          clear H
          have H := H1
          clear H1
          by_cases c16 : (l0_3.length : Int) = (l1_3.length : Int)
          · rw [if_pos c16] at H
            have c16b0 : ((l0_3.length : Int) == (l1_3.length : Int)) = true := beq_iff_eq.mpr c16
            have c16b1 : ((l0_3.length : Int) != (l1_3.length : Int)) = false := bne_eq_false_iff_eq.mpr c16
            have c16b2 : (l0_3.length == l1_3.length) = true := by first | simpa using c16 | (simp at c16 ⊢; omega)
            clear c16
            have H' := Aside0.mk H
            clear H
            have hnb17 := NB251_252.out
            have hnc17 := NB252_251.out
            have hcz18_0 : w5.cell? ⟨gb251, 0, none⟩ = some (.bool a0_0) := (blk_cell BK251.out 0).trans rfl
            have hcz18_1 : w5.cell? ⟨gb251, 1, none⟩ = some (.bool a0_1) := (blk_cell BK251.out 1).trans rfl
            have hcz18_2 : w5.cell? ⟨gb251, 2, none⟩ = some (.slice A0_2 l0_2.length c0_2) := (blk_cell BK251.out 2).trans rfl
            have hcz18_3 : w5.cell? ⟨gb251, 3, none⟩ = some (.slice A0_3 l0_3.length c0_3) := (blk_cell BK251.out 3).trans rfl
            have hcz18_4 : w5.cell? ⟨gb251, 4, none⟩ = some (.slice A0_4 l0_4.length c0_4) := (blk_cell BK251.out 4).trans rfl
            have hfz18_0 := blk_frozen BK251.out 0
            have hfz18_1 := blk_frozen BK251.out 1
            have hfz18_2 := blk_frozen BK251.out 2
            have hfz18_3 := blk_frozen BK251.out 3
            have hfz18_4 := blk_frozen BK251.out 4
            have hcz19_0 : w5.cell? ⟨gb252, 0, none⟩ = some (.bool a1_0) := (blk_cell BK252.out 0).trans rfl
            have hcz19_1 : w5.cell? ⟨gb252, 1, none⟩ = some (.bool a1_1) := (blk_cell BK252.out 1).trans rfl
            have hcz19_2 : w5.cell? ⟨gb252, 2, none⟩ = some (.slice A1_2 l1_2.length c1_2) := (blk_cell BK252.out 2).trans rfl
            have hcz19_3 : w5.cell? ⟨gb252, 3, none⟩ = some (.slice A1_3 l1_3.length c1_3) := (blk_cell BK252.out 3).trans rfl
            have hcz19_4 : w5.cell? ⟨gb252, 4, none⟩ = some (.slice A1_4 l1_4.length c1_4) := (blk_cell BK252.out 4).trans rfl
            have hfz19_0 := blk_frozen BK252.out 0
            have hfz19_1 := blk_frozen BK252.out 1
            have hfz19_2 := blk_frozen BK252.out 2
            have hfz19_3 := blk_frozen BK252.out 3
            have hfz19_4 := blk_frozen BK252.out 4
            go_wp2_with (first | (go_at_call 23; (with_reducible refine (boscagelaw02_Same.calls k _ _ l0_2 _ _ l1_2 true _ ?side1 ?side2 ?side3 ?side4 A14.out).mono ?_); (case side1 => repeat (first | exact (Kd.C_below HR0_2.out HB.out) | (with_reducible refine Kd.C_alloc ?_ _) | (with_reducible refine Kd.C_drewN ?_ _) | (with_reducible refine Kd.C_drew ?_))); (case side2 => exact HC0_2.out); (case side3 => repeat (first | exact (Kd.C_below HR1_2.out HB.out) | (with_reducible refine Kd.C_alloc ?_ _) | (with_reducible refine Kd.C_drewN ?_ _) | (with_reducible refine Kd.C_drew ?_))); (case side4 => exact HC1_2.out); rintro e w' ⟨rfl, ⟨nd, rfl⟩⟩))
            go_meet
            case rel => exact ⟨_, (((l0_4.length : Int) != (l1_4.length : Int))), (by first | rfl | (simp; done) | (simp [*]; done)), H', ⟨by first | omega | exact Nat.le_refl _⟩, ⟨by (with_reducible repeat (first | refine blk_drewN ?_ _ | refine blk_drew ?_ | refine blk_alloc ?_ _)); exact BK251.out⟩, ⟨by (with_reducible repeat (first | refine blk_drewN ?_ _ | refine blk_drew ?_ | refine blk_alloc ?_ _)); exact BK252.out⟩, ⟨by repeat (first | (with_reducible first | exact HB.out | apply below_alloc | apply pw_below_drewN | apply below_drew1 | refine below_set ?_ GE251.out | refine below_set ?_ GE252.out) | exact HB.out)⟩⟩
          · rw [if_neg c16] at H
            have c16b0 : ((l0_3.length : Int) == (l1_3.length : Int)) = false := beq_eq_false_iff_ne.mpr c16
            have c16b1 : ((l0_3.length : Int) != (l1_3.length : Int)) = true := bne_iff_ne.mpr c16
            have c16b2 : (l0_3.length == l1_3.length) = false := by first | simpa using c16 | (simp at c16 ⊢; omega)
            have H' := Aside0.mk H
            clear H
            have hnb20 := NB251_252.out
            have hnc20 := NB252_251.out
            have hcz21_0 : w5.cell? ⟨gb251, 0, none⟩ = some (.bool a0_0) := (blk_cell BK251.out 0).trans rfl
            have hcz21_1 : w5.cell? ⟨gb251, 1, none⟩ = some (.bool a0_1) := (blk_cell BK251.out 1).trans rfl
            have hcz21_2 : w5.cell? ⟨gb251, 2, none⟩ = some (.slice A0_2 l0_2.length c0_2) := (blk_cell BK251.out 2).trans rfl
            have hcz21_3 : w5.cell? ⟨gb251, 3, none⟩ = some (.slice A0_3 l0_3.length c0_3) := (blk_cell BK251.out 3).trans rfl
            have hcz21_4 : w5.cell? ⟨gb251, 4, none⟩ = some (.slice A0_4 l0_4.length c0_4) := (blk_cell BK251.out 4).trans rfl
            have hfz21_0 := blk_frozen BK251.out 0
            have hfz21_1 := blk_frozen BK251.out 1
            have hfz21_2 := blk_frozen BK251.out 2
            have hfz21_3 := blk_frozen BK251.out 3
            have hfz21_4 := blk_frozen BK251.out 4
            have hcz22_0 : w5.cell? ⟨gb252, 0, none⟩ = some (.bool a1_0) := (blk_cell BK252.out 0).trans rfl
            have hcz22_1 : w5.cell? ⟨gb252, 1, none⟩ = some (.bool a1_1) := (blk_cell BK252.out 1).trans rfl
            have hcz22_2 : w5.cell? ⟨gb252, 2, none⟩ = some (.slice A1_2 l1_2.length c1_2) := (blk_cell BK252.out 2).trans rfl
            have hcz22_3 : w5.cell? ⟨gb252, 3, none⟩ = some (.slice A1_3 l1_3.length c1_3) := (blk_cell BK252.out 3).trans rfl
            have hcz22_4 : w5.cell? ⟨gb252, 4, none⟩ = some (.slice A1_4 l1_4.length c1_4) := (blk_cell BK252.out 4).trans rfl
            have hfz22_0 := blk_frozen BK252.out 0
            have hfz22_1 := blk_frozen BK252.out 1
            have hfz22_2 := blk_frozen BK252.out 2
            have hfz22_3 := blk_frozen BK252.out 3
            have hfz22_4 := blk_frozen BK252.out 4
            go_wp2_with (first | (go_at_call 23; (with_reducible refine (boscagelaw02_Same.calls k _ _ l0_2 _ _ l1_2 true _ ?side1 ?side2 ?side3 ?side4 A14.out).mono ?_); (case side1 => repeat (first | exact (Kd.C_below HR0_2.out HB.out) | (with_reducible refine Kd.C_alloc ?_ _) | (with_reducible refine Kd.C_drewN ?_ _) | (with_reducible refine Kd.C_drew ?_))); (case side2 => exact HC0_2.out); (case side3 => repeat (first | exact (Kd.C_below HR1_2.out HB.out) | (with_reducible refine Kd.C_alloc ?_ _) | (with_reducible refine Kd.C_drewN ?_ _) | (with_reducible refine Kd.C_drew ?_))); (case side4 => exact HC1_2.out); rintro e w' ⟨rfl, ⟨nd, rfl⟩⟩))
            go_meet
            case rel => exact ⟨_, (true), (by first | rfl | (simp; done) | (simp [*]; done)), H', ⟨by first | omega | exact Nat.le_refl _⟩, ⟨by (with_reducible repeat (first | refine blk_drewN ?_ _ | refine blk_drew ?_ | refine blk_alloc ?_ _)); exact BK251.out⟩, ⟨by (with_reducible repeat (first | refine blk_drewN ?_ _ | refine blk_drew ?_ | refine blk_alloc ?_ _)); exact BK252.out⟩, ⟨by repeat (first | (with_reducible first | exact HB.out | apply below_alloc | apply pw_below_drewN | apply below_drew1 | refine below_set ?_ GE251.out | refine below_set ?_ GE252.out) | exact HB.out)⟩⟩
        · replace c15 := Bool.eq_false_iff.mpr c15
          subst c15
          have H1 : (boscagelaw11_Same.j0 k true a0_0 a0_1 l0_2 l0_3 l0_4 a1_0 a1_1 l1_2 l1_3 l1_4) = some r := by rw [if_neg (show ¬ (false = true) by decide)] at H; exact H
          clear H
          have H := H1
          clear H1
          have H' := Aside0.mk H
          clear H
          have hnb23 := NB251_252.out
          have hnc23 := NB252_251.out
          have hcz24_0 : w5.cell? ⟨gb251, 0, none⟩ = some (.bool a0_0) := (blk_cell BK251.out 0).trans rfl
          have hcz24_1 : w5.cell? ⟨gb251, 1, none⟩ = some (.bool a0_1) := (blk_cell BK251.out 1).trans rfl
          have hcz24_2 : w5.cell? ⟨gb251, 2, none⟩ = some (.slice A0_2 l0_2.length c0_2) := (blk_cell BK251.out 2).trans rfl
          have hcz24_3 : w5.cell? ⟨gb251, 3, none⟩ = some (.slice A0_3 l0_3.length c0_3) := (blk_cell BK251.out 3).trans rfl
          have hcz24_4 : w5.cell? ⟨gb251, 4, none⟩ = some (.slice A0_4 l0_4.length c0_4) := (blk_cell BK251.out 4).trans rfl
          have hfz24_0 := blk_frozen BK251.out 0
          have hfz24_1 := blk_frozen BK251.out 1
          have hfz24_2 := blk_frozen BK251.out 2
          have hfz24_3 := blk_frozen BK251.out 3
          have hfz24_4 := blk_frozen BK251.out 4
          have hcz25_0 : w5.cell? ⟨gb252, 0, none⟩ = some (.bool a1_0) := (blk_cell BK252.out 0).trans rfl
          have hcz25_1 : w5.cell? ⟨gb252, 1, none⟩ = some (.bool a1_1) := (blk_cell BK252.out 1).trans rfl
          have hcz25_2 : w5.cell? ⟨gb252, 2, none⟩ = some (.slice A1_2 l1_2.length c1_2) := (blk_cell BK252.out 2).trans rfl
          have hcz25_3 : w5.cell? ⟨gb252, 3, none⟩ = some (.slice A1_3 l1_3.length c1_3) := (blk_cell BK252.out 3).trans rfl
          have hcz25_4 : w5.cell? ⟨gb252, 4, none⟩ = some (.slice A1_4 l1_4.length c1_4) := (blk_cell BK252.out 4).trans rfl
          have hfz25_0 := blk_frozen BK252.out 0
          have hfz25_1 := blk_frozen BK252.out 1
          have hfz25_2 := blk_frozen BK252.out 2
          have hfz25_3 := blk_frozen BK252.out 3
          have hfz25_4 := blk_frozen BK252.out 4
          go_wp2_with (first | (go_at_call 23; (with_reducible refine (boscagelaw02_Same.calls k _ _ l0_2 _ _ l1_2 false _ ?side1 ?side2 ?side3 ?side4 A14.out).mono ?_); (case side1 => repeat (first | exact (Kd.C_below HR0_2.out HB.out) | (with_reducible refine Kd.C_alloc ?_ _) | (with_reducible refine Kd.C_drewN ?_ _) | (with_reducible refine Kd.C_drew ?_))); (case side2 => exact HC0_2.out); (case side3 => repeat (first | exact (Kd.C_below HR1_2.out HB.out) | (with_reducible refine Kd.C_alloc ?_ _) | (with_reducible refine Kd.C_drewN ?_ _) | (with_reducible refine Kd.C_drew ?_))); (case side4 => exact HC1_2.out); rintro e w' ⟨rfl, ⟨nd, rfl⟩⟩))
          go_meet
          case rel => exact ⟨_, (true), (by first | rfl | (simp; done) | (simp [*]; done)), H', ⟨by first | omega | exact Nat.le_refl _⟩, ⟨by (with_reducible repeat (first | refine blk_drewN ?_ _ | refine blk_drew ?_ | refine blk_alloc ?_ _)); exact BK251.out⟩, ⟨by (with_reducible repeat (first | refine blk_drewN ?_ _ | refine blk_drew ?_ | refine blk_alloc ?_ _)); exact BK252.out⟩, ⟨by repeat (first | (with_reducible first | exact HB.out | apply below_alloc | apply pw_below_drewN | apply below_drew1 | refine below_set ?_ GE251.out | refine below_set ?_ GE252.out) | exact HB.out)⟩⟩
  case rest =>
    clear HC3
    try clear c1
    try clear c2
    try clear p2
    try clear c6
    try clear c6b0
    try clear c6b1
    try clear c6b2
    try clear c7
    try clear c10
    try clear c10b0
    try clear c10b1
    try clear c10b2
    try clear c11
    try clear c15
    try clear c16
    try clear c16b0
    try clear c16b1
    try clear c16b2
    try clear c17
    try clear c20
    try clear c23
    try clear hcz12_0
    try clear hcz12_1
    try clear hcz12_2
    try clear hcz12_3
    try clear hcz12_4
    try clear hcz13_0
    try clear hcz13_1
    try clear hcz13_2
    try clear hcz13_3
    try clear hcz13_4
    try clear hcz18_0
    try clear hcz18_1
    try clear hcz18_2
    try clear hcz18_3
    try clear hcz18_4
    try clear hcz19_0
    try clear hcz19_1
    try clear hcz19_2
    try clear hcz19_3
    try clear hcz19_4
    try clear hcz21_0
    try clear hcz21_1
    try clear hcz21_2
    try clear hcz21_3
    try clear hcz21_4
    try clear hcz22_0
    try clear hcz22_1
    try clear hcz22_2
    try clear hcz22_3
    try clear hcz22_4
    try clear hcz24_0
    try clear hcz24_1
    try clear hcz24_2
    try clear hcz24_3
    try clear hcz24_4
    try clear hcz25_0
    try clear hcz25_1
    try clear hcz25_2
    try clear hcz25_3
    try clear hcz25_4
    try clear hcz8_0
    try clear hcz8_1
    try clear hcz8_2
    try clear hcz8_3
    try clear hcz8_4
    try clear hcz9_0
    try clear hcz9_1
    try clear hcz9_2
    try clear hcz9_3
    try clear hcz9_4
    try clear hfz12_0
    try clear hfz12_1
    try clear hfz12_2
    try clear hfz12_3
    try clear hfz12_4
    try clear hfz13_0
    try clear hfz13_1
    try clear hfz13_2
    try clear hfz13_3
    try clear hfz13_4
    try clear hfz18_0
    try clear hfz18_1
    try clear hfz18_2
    try clear hfz18_3
    try clear hfz18_4
    try clear hfz19_0
    try clear hfz19_1
    try clear hfz19_2
    try clear hfz19_3
    try clear hfz19_4
    try clear hfz21_0
    try clear hfz21_1
    try clear hfz21_2
    try clear hfz21_3
    try clear hfz21_4
    try clear hfz22_0
    try clear hfz22_1
    try clear hfz22_2
    try clear hfz22_3
    try clear hfz22_4
    try clear hfz24_0
    try clear hfz24_1
    try clear hfz24_2
    try clear hfz24_3
    try clear hfz24_4
    try clear hfz25_0
    try clear hfz25_1
    try clear hfz25_2
    try clear hfz25_3
    try clear hfz25_4
    try clear hfz8_0
    try clear hfz8_1
    try clear hfz8_2
    try clear hfz8_3
    try clear hfz8_4
    try clear hfz9_0
    try clear hfz9_1
    try clear hfz9_2
    try clear hfz9_3
    try clear hfz9_4
    obtain ⟨kq, x44_2, rfl, HA, HJ2, BK251, BK252, HB⟩ := hcut
    cases kq with
    | zero => exact absurd HA.out (by simp [boscagelaw11_Same.j0])
    | succ kj2 =>
      have H := HA.out
      clear HA
      simp only [boscagelaw11_Same.j0] at H
      by_cases c26 : x44_2 = true
      · subst c26
        have H1 : (some false) = some r := by rw [if_pos rfl] at H; exact H
        clear H
        have H := H1
        clear H1
        obtain rfl := Option.some.inj H
        go_wp2
        go_ret
        exact ⟨by first | rfl | (simp [errW_none, errW_some] <;> rfl) | (simp [*, errW_none, errW_some] <;> rfl), by repeat (first | (with_reducible first | exact HB.out | apply below_alloc | apply pw_below_drewN | apply below_drew1 | refine below_set ?_ GE251.out | refine below_set ?_ GE252.out) | exact HB.out)⟩
      · replace c26 := Bool.eq_false_iff.mpr c26
        subst c26
        have H1 : (boscagelaw11_Same.l0 kj2 (l0_3.length : Int) 0 a0_0 a0_1 l0_2 l0_3 l0_4 a1_0 a1_1 l1_2 l1_3 l1_4) = some r := by rw [if_neg (show ¬ (false = true) by decide)] at H; exact H
        clear H
        have H := H1
        clear H1
        have H' := Aside0.mk H
        clear H
        have hnb27 := NB251_252.out
        have hnc27 := NB252_251.out
        have hcz28_0 : wc.cell? ⟨gb251, 0, none⟩ = some (.bool a0_0) := (blk_cell BK251.out 0).trans rfl
        have hcz28_1 : wc.cell? ⟨gb251, 1, none⟩ = some (.bool a0_1) := (blk_cell BK251.out 1).trans rfl
        have hcz28_2 : wc.cell? ⟨gb251, 2, none⟩ = some (.slice A0_2 l0_2.length c0_2) := (blk_cell BK251.out 2).trans rfl
        have hcz28_3 : wc.cell? ⟨gb251, 3, none⟩ = some (.slice A0_3 l0_3.length c0_3) := (blk_cell BK251.out 3).trans rfl
        have hcz28_4 : wc.cell? ⟨gb251, 4, none⟩ = some (.slice A0_4 l0_4.length c0_4) := (blk_cell BK251.out 4).trans rfl
        have hfz28_0 := blk_frozen BK251.out 0
        have hfz28_1 := blk_frozen BK251.out 1
        have hfz28_2 := blk_frozen BK251.out 2
        have hfz28_3 := blk_frozen BK251.out 3
        have hfz28_4 := blk_frozen BK251.out 4
        go_wp2
        go_loopg [48] kj2 (fun kq v48 w' => ∃ (x48_2 : Int), v48 = .int .i64 x48_2 ∧ Aside0 (boscagelaw11_Same.l0 kq (l0_3.length : Int) x48_2 a0_0 a0_1 l0_2 l0_3 l0_4 a1_0 a1_1 l1_2 l1_3 l1_4 = some r) ∧ Aside0 (kq ≤ kj2) ∧ Aside0 (w'.heap[gb251]? = some (.cells #[.bool a0_0, .bool a0_1, (.slice A0_2 l0_2.length c0_2), (.slice A0_3 l0_3.length c0_3), (.slice A0_4 l0_4.length c0_4)] 42 (0, 0))) ∧ Aside0 (w'.heap[gb252]? = some (.cells #[.bool a1_0, .bool a1_1, (.slice A1_2 l1_2.length c1_2), (.slice A1_3 l1_3.length c1_3), (.slice A1_4 l1_4.length c1_4)] 42 (0, 0))) ∧ Aside0 (Below w.heap.size w w'))
        case atStart => exact ⟨(0), (by first | rfl | (simp; done) | (simp [*]; done)), H', ⟨Nat.le_refl _⟩, ⟨by (with_reducible repeat (first | refine blk_drewN ?_ _ | refine blk_drew ?_ | refine blk_alloc ?_ _)); exact BK251.out⟩, ⟨by (with_reducible repeat (first | refine blk_drewN ?_ _ | refine blk_drew ?_ | refine blk_alloc ?_ _)); exact BK252.out⟩, ⟨by repeat (first | (with_reducible first | exact HB.out | apply below_alloc | apply pw_below_drewN | apply below_drew1 | refine below_set ?_ GE251.out | refine below_set ?_ GE252.out) | exact HB.out)⟩⟩
        case round =>
          clear H'
          try clear c1
          try clear c2
          try clear p2
          try clear c6
          try clear c6b0
          try clear c6b1
          try clear c6b2
          try clear c7
          try clear c10
          try clear c10b0
          try clear c10b1
          try clear c10b2
          try clear c11
          try clear c15
          try clear c16
          try clear c16b0
          try clear c16b1
          try clear c16b2
          try clear c17
          try clear c20
          try clear c23
          try clear c26
          try clear c27
          try clear hcz12_0
          try clear hcz12_1
          try clear hcz12_2
          try clear hcz12_3
          try clear hcz12_4
          try clear hcz13_0
          try clear hcz13_1
          try clear hcz13_2
          try clear hcz13_3
          try clear hcz13_4
          try clear hcz18_0
          try clear hcz18_1
          try clear hcz18_2
          try clear hcz18_3
          try clear hcz18_4
          try clear hcz19_0
          try clear hcz19_1
          try clear hcz19_2
          try clear hcz19_3
          try clear hcz19_4
          try clear hcz21_0
          try clear hcz21_1
          try clear hcz21_2
          try clear hcz21_3
          try clear hcz21_4
          try clear hcz22_0
          try clear hcz22_1
          try clear hcz22_2
          try clear hcz22_3
          try clear hcz22_4
          try clear hcz24_0
          try clear hcz24_1
          try clear hcz24_2
          try clear hcz24_3
          try clear hcz24_4
          try clear hcz25_0
          try clear hcz25_1
          try clear hcz25_2
          try clear hcz25_3
          try clear hcz25_4
          try clear hcz28_0
          try clear hcz28_1
          try clear hcz28_2
          try clear hcz28_3
          try clear hcz28_4
          try clear hcz8_0
          try clear hcz8_1
          try clear hcz8_2
          try clear hcz8_3
          try clear hcz8_4
          try clear hcz9_0
          try clear hcz9_1
          try clear hcz9_2
          try clear hcz9_3
          try clear hcz9_4
          try clear hfz12_0
          try clear hfz12_1
          try clear hfz12_2
          try clear hfz12_3
          try clear hfz12_4
          try clear hfz13_0
          try clear hfz13_1
          try clear hfz13_2
          try clear hfz13_3
          try clear hfz13_4
          try clear hfz18_0
          try clear hfz18_1
          try clear hfz18_2
          try clear hfz18_3
          try clear hfz18_4
          try clear hfz19_0
          try clear hfz19_1
          try clear hfz19_2
          try clear hfz19_3
          try clear hfz19_4
          try clear hfz21_0
          try clear hfz21_1
          try clear hfz21_2
          try clear hfz21_3
          try clear hfz21_4
          try clear hfz22_0
          try clear hfz22_1
          try clear hfz22_2
          try clear hfz22_3
          try clear hfz22_4
          try clear hfz24_0
          try clear hfz24_1
          try clear hfz24_2
          try clear hfz24_3
          try clear hfz24_4
          try clear hfz25_0
          try clear hfz25_1
          try clear hfz25_2
          try clear hfz25_3
          try clear hfz25_4
          try clear hfz28_0
          try clear hfz28_1
          try clear hfz28_2
          try clear hfz28_3
          try clear hfz28_4
          try clear hfz8_0
          try clear hfz8_1
          try clear hfz8_2
          try clear hfz8_3
          try clear hfz8_4
          try clear hfz9_0
          try clear hfz9_1
          try clear hfz9_2
          try clear hfz9_3
          try clear hfz9_4
          try clear p2
          obtain ⟨x48_2, rfl, HA, HK2, BK251, BK252, HB⟩ := hrel
          cases gk with
          | zero => exact absurd HA.out (by simp [boscagelaw11_Same.l0])
          | succ k2 =>
            have H := HA.out
            clear HA
            simp only [boscagelaw11_Same.l0] at H
            by_cases c29 : x48_2 < (l0_3.length : Int)
            · rw [if_pos c29] at H
              have c29b0 : decide (x48_2 < (l0_3.length : Int)) = true := decide_eq_true c29
              clear c29
              by_cases c30 : 0 ≤ x48_2
              · rw [if_pos c30] at H
                have c30b0 : decide (0 ≤ x48_2) = true := decide_eq_true c30
                clear c30
                by_cases c31 : x48_2 < (l0_3.length : Int)
                · rw [if_pos c31] at H
                  have c31b0 : decide (x48_2 < (l0_3.length : Int)) = true := decide_eq_true c31
                  clear c31
                  by_cases c32 : x48_2 < (l1_3.length : Int)
                  · rw [if_pos c32] at H
                    have c32b0 : decide (x48_2 < (l1_3.length : Int)) = true := decide_eq_true c32
                    clear c32
                    by_cases c33 : (rd l0_3 x48_2) = (rd l1_3 x48_2)
                    · rw [if_pos c33] at H
                      have c33b0 : ((rd l0_3 x48_2) == (rd l1_3 x48_2)) = true := beq_iff_eq.mpr c33
                      have c33b1 : ((rd l0_3 x48_2) != (rd l1_3 x48_2)) = false := bne_eq_false_iff_eq.mpr c33
                      clear c33
                      have H' := Aside0.mk H
                      clear H
                      try go_wp2
                      have n0_ := Aside0.mk (blk_drew BK251.out)
                      have n1_ := Aside0.mk (blk_drew BK252.out)
                      have n2_ := Aside0.mk (below_drew1 HB.out)
                      clear BK251
                      clear BK252
                      clear HB
                      have BK251 := n0_
                      have BK252 := n1_
                      have HB := n2_
                      clear n0_ n1_ n2_
                      have p254 : 0 ≤ (x48_2 : Int) := of_decide_eq_true (by first | (with_reducible assumption) | assumption)
                      have q254 : x48_2 < (l0_3.length : Int) := of_decide_eq_true (by first | (with_reducible assumption) | assumption)
                      obtain ⟨ad254, e254, hx254_0⟩ := Kd.at_int HR0_3.out x48_2 p254 q254
                      have hw254_0 := hx254_0
                      cases e254
                      replace hx254_0 := (HB.out.cell (World.block_lt_of_cell? w _ hx254_0)).trans hx254_0
                      replace p254 := eq_true p254
                      replace q254 := eq_true q254
                      have p255 : 0 ≤ (x48_2 : Int) := of_decide_eq_true (by first | (with_reducible assumption) | assumption)
                      have q255 : x48_2 < (l1_3.length : Int) := of_decide_eq_true (by first | (with_reducible assumption) | assumption)
                      obtain ⟨ad255, e255, hx255_0⟩ := Kd.at_int HR1_3.out x48_2 p255 q255
                      have hw255_0 := hx255_0
                      cases e255
                      replace hx255_0 := (HB.out.cell (World.block_lt_of_cell? w _ hx255_0)).trans hx255_0
                      replace p255 := eq_true p255
                      replace q255 := eq_true q255
                      refine start_ (n := 11) (S := fun w' => w'.cell? ⟨gb251, 0, none⟩ = some (.bool a0_0) ∧ w'.cell? ⟨gb251, 1, none⟩ = some (.bool a0_1) ∧ w'.cell? ⟨gb251, 2, none⟩ = some (.slice A0_2 l0_2.length c0_2) ∧ w'.cell? ⟨gb251, 3, none⟩ = some (.slice (some ad254) l0_3.length c0_3) ∧ w'.cell? ⟨gb251, 4, none⟩ = some (.slice A0_4 l0_4.length c0_4) ∧ w'.cell? ⟨gb252, 0, none⟩ = some (.bool a1_0) ∧ w'.cell? ⟨gb252, 1, none⟩ = some (.bool a1_1) ∧ w'.cell? ⟨gb252, 2, none⟩ = some (.slice A1_2 l1_2.length c1_2) ∧ w'.cell? ⟨gb252, 3, none⟩ = some (.slice (some ad255) l1_3.length c1_3) ∧ w'.cell? ⟨gb252, 4, none⟩ = some (.slice A1_4 l1_4.length c1_4) ∧ w'.cell? (ad254.add (x48_2).toNat) = some (.int .i64 (rd l0_3 x48_2)) ∧ w'.cell? (ad255.add (x48_2).toNat) = some (.int .i64 (rd l1_3 x48_2))) (ds := []) #[N_,N_,N_,N_,N_,N_,N_,N_,N_,N_,N_] (by kernel_rfl) rfl rfl ⟨(blk_cell BK251.out 0).trans rfl, (blk_cell BK251.out 1).trans rfl, (blk_cell BK251.out 2).trans rfl, (blk_cell BK251.out 3).trans rfl, (blk_cell BK251.out 4).trans rfl, (blk_cell BK252.out 0).trans rfl, (blk_cell BK252.out 1).trans rfl, (blk_cell BK252.out 2).trans rfl, (blk_cell BK252.out 3).trans rfl, (blk_cell BK252.out 4).trans rfl, ((HB.out.cell (World.block_lt_of_cell? w _ hw254_0)).trans hw254_0), ((HB.out.cell (World.block_lt_of_cell? w _ hw255_0)).trans hw255_0)⟩ (fun hHeld => ?_); refine with_tabW boscagelaw11_Same.tab6 boscagelaw11_Same.bits6 (fun HT_ HW_ => ?_)
                      generalize wr.drew = w34 at BK251 BK252 HB hx254_0 hx255_0 hHeld ⊢
                      refine pure_ (i := 0) (N := some 51) (v := ?_) (a' := ?_) #[Y_,N_,N_,N_,N_,N_,N_,N_,N_,N_,N_] rfl rfl (any_of HT_.out (by kernel_rfl)) (fun _ _ _ h => h) (Or.inl ⟨by rfl, ?_⟩) ?_ ?_
                      rotate_left; · intro w'; go_simp; with_reducible rfl
                      rotate_left; · simp only [Act.put, u1_, u2_, u3_, i64_w, i32_w]; rfl
                      refine pure_ (i := 2) (N := some 53) (v := ?_) (a' := ?_) #[Y_,N_,Y_,N_,N_,N_,N_,N_,N_,N_,N_] rfl rfl (any_of HT_.out (by kernel_rfl)) (fun _ _ _ h => h) (Or.inl ⟨by rfl, ?_⟩) ?_ ?_
                      rotate_left; · intro w'; go_simp; with_reducible rfl
                      rotate_left; · simp only [Act.put, u1_, u2_, u3_, i64_w, i32_w]; rfl
                      refine pure_ (i := 5) (N := some 56) (v := ?_) (a' := ?_) #[Y_,N_,Y_,N_,N_,Y_,N_,N_,N_,N_,N_] rfl rfl (any_of HT_.out (by kernel_rfl)) (fun _ _ _ h => h) (Or.inl ⟨by rfl, ?_⟩) ?_ ?_
                      rotate_left; · intro w'; go_simp; with_reducible rfl
                      rotate_left; · simp only [Act.put, u1_, u2_, u3_, i64_w, i32_w]; rfl
                      refine pure_ (i := 7) (N := some 58) (v := ?_) (a' := ?_) #[Y_,N_,Y_,N_,N_,Y_,N_,Y_,N_,N_,N_] rfl rfl (any_of HT_.out (by kernel_rfl)) (fun _ _ _ h => h) (Or.inl ⟨by rfl, ?_⟩) ?_ ?_
                      rotate_left; · intro w'; go_simp; with_reducible rfl
                      rotate_left; · simp only [Act.put, u1_, u2_, u3_, i64_w, i32_w]; rfl
                      refine take_ (i := 1) (N := some 52) (v := ?_) (a' := ?_) #[Y_,Y_,Y_,N_,N_,Y_,N_,Y_,N_,N_,N_] rfl rfl (take_ofW HT_.out HW_.out (by kernel_rfl)) (fun _ _ _ h => h) (Or.inl ⟨by rfl, ?_⟩) hHeld ?_ ?_
                      rotate_left; · rintro w' ⟨s0, s1, s2, s3, s4, s5, s6, s7, s8, s9, s10, s11⟩; go_simp; with_reducible rfl
                      rotate_left; · simp only [Act.put, u1_, u2_, u3_, i64_w, i32_w]; rfl
                      refine pure_ (i := 3) (N := some 54) (v := ?_) (a' := ?_) #[Y_,Y_,Y_,Y_,N_,Y_,N_,Y_,N_,N_,N_] rfl rfl (any_of HT_.out (by kernel_rfl)) (fun _ _ _ h => h) (Or.inl ⟨by rfl, ?_⟩) ?_ ?_
                      rotate_left; · intro w'; go_simp; with_reducible rfl
                      rotate_left; · simp only [Act.put, u1_, u2_, u3_, i64_w, i32_w]; rfl
                      refine take_ (i := 4) (N := some 55) (v := ?_) (a' := ?_) #[Y_,Y_,Y_,Y_,Y_,Y_,N_,Y_,N_,N_,N_] rfl rfl (take_ofW HT_.out HW_.out (by kernel_rfl)) (fun _ _ _ h => h) (Or.inl ⟨by rfl, ?_⟩) hHeld ?_ ?_
                      rotate_left; · rintro w' ⟨s0, s1, s2, s3, s4, s5, s6, s7, s8, s9, s10, s11⟩; go_simp; with_reducible rfl
                      rotate_left; · simp only [Act.put, u1_, u2_, u3_, i64_w, i32_w]; rfl
                      refine take_ (i := 6) (N := some 57) (v := ?_) (a' := ?_) #[Y_,Y_,Y_,Y_,Y_,Y_,Y_,Y_,N_,N_,N_] rfl rfl (take_ofW HT_.out HW_.out (by kernel_rfl)) (fun _ _ _ h => h) (Or.inl ⟨by rfl, ?_⟩) hHeld ?_ ?_
                      rotate_left; · rintro w' ⟨s0, s1, s2, s3, s4, s5, s6, s7, s8, s9, s10, s11⟩; go_simp; with_reducible rfl
                      rotate_left; · simp only [Act.put, u1_, u2_, u3_, i64_w, i32_w]; rfl
                      refine pure_ (i := 8) (N := some 59) (v := ?_) (a' := ?_) #[Y_,Y_,Y_,Y_,Y_,Y_,Y_,Y_,Y_,N_,N_] rfl rfl (any_of HT_.out (by kernel_rfl)) (fun _ _ _ h => h) (Or.inl ⟨by rfl, ?_⟩) ?_ ?_
                      rotate_left; · intro w'; go_simp; with_reducible rfl
                      rotate_left; · simp only [Act.put, u1_, u2_, u3_, i64_w, i32_w]; rfl
                      refine take_ (i := 9) (N := some 60) (v := ?_) (a' := ?_) #[Y_,Y_,Y_,Y_,Y_,Y_,Y_,Y_,Y_,Y_,N_] rfl rfl (take_ofW HT_.out HW_.out (by kernel_rfl)) (fun _ _ _ h => h) (Or.inl ⟨by rfl, ?_⟩) hHeld ?_ ?_
                      rotate_left; · rintro w' ⟨s0, s1, s2, s3, s4, s5, s6, s7, s8, s9, s10, s11⟩; go_simp; with_reducible rfl
                      rotate_left; · simp only [Act.put, u1_, u2_, u3_, i64_w, i32_w]; rfl
                      refine pure_ (i := 10) (N := some 61) (v := ?_) (a' := ?_) #[Y_,Y_,Y_,Y_,Y_,Y_,Y_,Y_,Y_,Y_,Y_] rfl rfl (any_of HT_.out (by kernel_rfl)) (fun _ _ _ h => h) (Or.inl ⟨by rfl, ?_⟩) ?_ ?_
                      rotate_left; · intro w'; go_simp; with_reducible rfl
                      rotate_left; · simp only [Act.put, u1_, u2_, u3_, i64_w, i32_w]; rfl
                      refine done_ (done_of HT_.out (by kernel_rfl)) ?_
                      try go_wp2
                      go_roundg k2
                      case measure => have := HJ2.out; have := HK2.out; omega
                      case rel => exact ⟨(wrap64 (x48_2 + 1)), (by first | rfl | (simp; done) | (simp [*]; done)), H', ⟨by have := HJ2.out; have := HK2.out; omega⟩, ⟨by (with_reducible repeat (first | refine blk_drewN ?_ _ | refine blk_drew ?_ | refine blk_alloc ?_ _)); exact BK251.out⟩, ⟨by (with_reducible repeat (first | refine blk_drewN ?_ _ | refine blk_drew ?_ | refine blk_alloc ?_ _)); exact BK252.out⟩, ⟨by repeat (first | (with_reducible first | exact HB.out | apply below_alloc | apply pw_below_drewN | apply below_drew1 | refine below_set ?_ GE251.out | refine below_set ?_ GE252.out) | exact HB.out)⟩⟩
                    · rw [if_neg c33] at H
                      have c33b0 : ((rd l0_3 x48_2) == (rd l1_3 x48_2)) = false := beq_eq_false_iff_ne.mpr c33
                      have c33b1 : ((rd l0_3 x48_2) != (rd l1_3 x48_2)) = true := bne_iff_ne.mpr c33
                      obtain rfl := Option.some.inj H
                      try go_wp2
                      have n0_ := Aside0.mk (blk_drew BK251.out)
                      have n1_ := Aside0.mk (blk_drew BK252.out)
                      have n2_ := Aside0.mk (below_drew1 HB.out)
                      clear BK251
                      clear BK252
                      clear HB
                      have BK251 := n0_
                      have BK252 := n1_
                      have HB := n2_
                      clear n0_ n1_ n2_
                      have p254 : 0 ≤ (x48_2 : Int) := of_decide_eq_true (by first | (with_reducible assumption) | assumption)
                      have q254 : x48_2 < (l0_3.length : Int) := of_decide_eq_true (by first | (with_reducible assumption) | assumption)
                      obtain ⟨ad254, e254, hx254_0⟩ := Kd.at_int HR0_3.out x48_2 p254 q254
                      have hw254_0 := hx254_0
                      cases e254
                      replace hx254_0 := (HB.out.cell (World.block_lt_of_cell? w _ hx254_0)).trans hx254_0
                      replace p254 := eq_true p254
                      replace q254 := eq_true q254
                      have p255 : 0 ≤ (x48_2 : Int) := of_decide_eq_true (by first | (with_reducible assumption) | assumption)
                      have q255 : x48_2 < (l1_3.length : Int) := of_decide_eq_true (by first | (with_reducible assumption) | assumption)
                      obtain ⟨ad255, e255, hx255_0⟩ := Kd.at_int HR1_3.out x48_2 p255 q255
                      have hw255_0 := hx255_0
                      cases e255
                      replace hx255_0 := (HB.out.cell (World.block_lt_of_cell? w _ hx255_0)).trans hx255_0
                      replace p255 := eq_true p255
                      replace q255 := eq_true q255
                      refine start_ (n := 11) (S := fun w' => w'.cell? ⟨gb251, 0, none⟩ = some (.bool a0_0) ∧ w'.cell? ⟨gb251, 1, none⟩ = some (.bool a0_1) ∧ w'.cell? ⟨gb251, 2, none⟩ = some (.slice A0_2 l0_2.length c0_2) ∧ w'.cell? ⟨gb251, 3, none⟩ = some (.slice (some ad254) l0_3.length c0_3) ∧ w'.cell? ⟨gb251, 4, none⟩ = some (.slice A0_4 l0_4.length c0_4) ∧ w'.cell? ⟨gb252, 0, none⟩ = some (.bool a1_0) ∧ w'.cell? ⟨gb252, 1, none⟩ = some (.bool a1_1) ∧ w'.cell? ⟨gb252, 2, none⟩ = some (.slice A1_2 l1_2.length c1_2) ∧ w'.cell? ⟨gb252, 3, none⟩ = some (.slice (some ad255) l1_3.length c1_3) ∧ w'.cell? ⟨gb252, 4, none⟩ = some (.slice A1_4 l1_4.length c1_4) ∧ w'.cell? (ad254.add (x48_2).toNat) = some (.int .i64 (rd l0_3 x48_2)) ∧ w'.cell? (ad255.add (x48_2).toNat) = some (.int .i64 (rd l1_3 x48_2))) (ds := []) #[N_,N_,N_,N_,N_,N_,N_,N_,N_,N_,N_] (by kernel_rfl) rfl rfl ⟨(blk_cell BK251.out 0).trans rfl, (blk_cell BK251.out 1).trans rfl, (blk_cell BK251.out 2).trans rfl, (blk_cell BK251.out 3).trans rfl, (blk_cell BK251.out 4).trans rfl, (blk_cell BK252.out 0).trans rfl, (blk_cell BK252.out 1).trans rfl, (blk_cell BK252.out 2).trans rfl, (blk_cell BK252.out 3).trans rfl, (blk_cell BK252.out 4).trans rfl, ((HB.out.cell (World.block_lt_of_cell? w _ hw254_0)).trans hw254_0), ((HB.out.cell (World.block_lt_of_cell? w _ hw255_0)).trans hw255_0)⟩ (fun hHeld => ?_); refine with_tabW boscagelaw11_Same.tab6 boscagelaw11_Same.bits6 (fun HT_ HW_ => ?_)
                      generalize wr.drew = w35 at BK251 BK252 HB hx254_0 hx255_0 hHeld ⊢
                      refine pure_ (i := 0) (N := some 51) (v := ?_) (a' := ?_) #[Y_,N_,N_,N_,N_,N_,N_,N_,N_,N_,N_] rfl rfl (any_of HT_.out (by kernel_rfl)) (fun _ _ _ h => h) (Or.inl ⟨by rfl, ?_⟩) ?_ ?_
                      rotate_left; · intro w'; go_simp; with_reducible rfl
                      rotate_left; · simp only [Act.put, u1_, u2_, u3_, i64_w, i32_w]; rfl
                      refine pure_ (i := 2) (N := some 53) (v := ?_) (a' := ?_) #[Y_,N_,Y_,N_,N_,N_,N_,N_,N_,N_,N_] rfl rfl (any_of HT_.out (by kernel_rfl)) (fun _ _ _ h => h) (Or.inl ⟨by rfl, ?_⟩) ?_ ?_
                      rotate_left; · intro w'; go_simp; with_reducible rfl
                      rotate_left; · simp only [Act.put, u1_, u2_, u3_, i64_w, i32_w]; rfl
                      refine pure_ (i := 5) (N := some 56) (v := ?_) (a' := ?_) #[Y_,N_,Y_,N_,N_,Y_,N_,N_,N_,N_,N_] rfl rfl (any_of HT_.out (by kernel_rfl)) (fun _ _ _ h => h) (Or.inl ⟨by rfl, ?_⟩) ?_ ?_
                      rotate_left; · intro w'; go_simp; with_reducible rfl
                      rotate_left; · simp only [Act.put, u1_, u2_, u3_, i64_w, i32_w]; rfl
                      refine pure_ (i := 7) (N := some 58) (v := ?_) (a' := ?_) #[Y_,N_,Y_,N_,N_,Y_,N_,Y_,N_,N_,N_] rfl rfl (any_of HT_.out (by kernel_rfl)) (fun _ _ _ h => h) (Or.inl ⟨by rfl, ?_⟩) ?_ ?_
                      rotate_left; · intro w'; go_simp; with_reducible rfl
                      rotate_left; · simp only [Act.put, u1_, u2_, u3_, i64_w, i32_w]; rfl
                      refine take_ (i := 1) (N := some 52) (v := ?_) (a' := ?_) #[Y_,Y_,Y_,N_,N_,Y_,N_,Y_,N_,N_,N_] rfl rfl (take_ofW HT_.out HW_.out (by kernel_rfl)) (fun _ _ _ h => h) (Or.inl ⟨by rfl, ?_⟩) hHeld ?_ ?_
                      rotate_left; · rintro w' ⟨s0, s1, s2, s3, s4, s5, s6, s7, s8, s9, s10, s11⟩; go_simp; with_reducible rfl
                      rotate_left; · simp only [Act.put, u1_, u2_, u3_, i64_w, i32_w]; rfl
                      refine pure_ (i := 3) (N := some 54) (v := ?_) (a' := ?_) #[Y_,Y_,Y_,Y_,N_,Y_,N_,Y_,N_,N_,N_] rfl rfl (any_of HT_.out (by kernel_rfl)) (fun _ _ _ h => h) (Or.inl ⟨by rfl, ?_⟩) ?_ ?_
                      rotate_left; · intro w'; go_simp; with_reducible rfl
                      rotate_left; · simp only [Act.put, u1_, u2_, u3_, i64_w, i32_w]; rfl
                      refine take_ (i := 4) (N := some 55) (v := ?_) (a' := ?_) #[Y_,Y_,Y_,Y_,Y_,Y_,N_,Y_,N_,N_,N_] rfl rfl (take_ofW HT_.out HW_.out (by kernel_rfl)) (fun _ _ _ h => h) (Or.inl ⟨by rfl, ?_⟩) hHeld ?_ ?_
                      rotate_left; · rintro w' ⟨s0, s1, s2, s3, s4, s5, s6, s7, s8, s9, s10, s11⟩; go_simp; with_reducible rfl
                      rotate_left; · simp only [Act.put, u1_, u2_, u3_, i64_w, i32_w]; rfl
                      refine take_ (i := 6) (N := some 57) (v := ?_) (a' := ?_) #[Y_,Y_,Y_,Y_,Y_,Y_,Y_,Y_,N_,N_,N_] rfl rfl (take_ofW HT_.out HW_.out (by kernel_rfl)) (fun _ _ _ h => h) (Or.inl ⟨by rfl, ?_⟩) hHeld ?_ ?_
                      rotate_left; · rintro w' ⟨s0, s1, s2, s3, s4, s5, s6, s7, s8, s9, s10, s11⟩; go_simp; with_reducible rfl
                      rotate_left; · simp only [Act.put, u1_, u2_, u3_, i64_w, i32_w]; rfl
                      refine pure_ (i := 8) (N := some 59) (v := ?_) (a' := ?_) #[Y_,Y_,Y_,Y_,Y_,Y_,Y_,Y_,Y_,N_,N_] rfl rfl (any_of HT_.out (by kernel_rfl)) (fun _ _ _ h => h) (Or.inl ⟨by rfl, ?_⟩) ?_ ?_
                      rotate_left; · intro w'; go_simp; with_reducible rfl
                      rotate_left; · simp only [Act.put, u1_, u2_, u3_, i64_w, i32_w]; rfl
                      refine take_ (i := 9) (N := some 60) (v := ?_) (a' := ?_) #[Y_,Y_,Y_,Y_,Y_,Y_,Y_,Y_,Y_,Y_,N_] rfl rfl (take_ofW HT_.out HW_.out (by kernel_rfl)) (fun _ _ _ h => h) (Or.inl ⟨by rfl, ?_⟩) hHeld ?_ ?_
                      rotate_left; · rintro w' ⟨s0, s1, s2, s3, s4, s5, s6, s7, s8, s9, s10, s11⟩; go_simp; with_reducible rfl
                      rotate_left; · simp only [Act.put, u1_, u2_, u3_, i64_w, i32_w]; rfl
                      refine pure_ (i := 10) (N := some 61) (v := ?_) (a' := ?_) #[Y_,Y_,Y_,Y_,Y_,Y_,Y_,Y_,Y_,Y_,Y_] rfl rfl (any_of HT_.out (by kernel_rfl)) (fun _ _ _ h => h) (Or.inl ⟨by rfl, ?_⟩) ?_ ?_
                      rotate_left; · intro w'; go_simp; with_reducible rfl
                      rotate_left; · simp only [Act.put, u1_, u2_, u3_, i64_w, i32_w]; rfl
                      refine done_ (done_of HT_.out (by kernel_rfl)) ?_
                      try go_wp2
                      go_ret
                      exact ⟨by first | rfl | (simp [errW_none, errW_some] <;> rfl) | (simp [*, errW_none, errW_some] <;> rfl), by repeat (first | (with_reducible first | exact HB.out | apply below_alloc | apply pw_below_drewN | apply below_drew1 | refine below_set ?_ GE251.out | refine below_set ?_ GE252.out) | exact HB.out)⟩
                  · rw [if_neg c32] at H
                    exact absurd H (by simp)
                · rw [if_neg c31] at H
                  exact absurd H (by simp)
              · rw [if_neg c30] at H
                exact absurd H (by simp)
            · rw [if_neg c29] at H
              have c29b0 : decide (x48_2 < (l0_3.length : Int)) = false := decide_eq_false c29
              clear c29
              have H' := Aside0.mk H
              clear H
              have hnb36 := NB251_252.out
              have hnc36 := NB252_251.out
              have hcz37_0 : wr.cell? ⟨gb251, 0, none⟩ = some (.bool a0_0) := (blk_cell BK251.out 0).trans rfl
              have hcz37_1 : wr.cell? ⟨gb251, 1, none⟩ = some (.bool a0_1) := (blk_cell BK251.out 1).trans rfl
              have hcz37_2 : wr.cell? ⟨gb251, 2, none⟩ = some (.slice A0_2 l0_2.length c0_2) := (blk_cell BK251.out 2).trans rfl
              have hcz37_3 : wr.cell? ⟨gb251, 3, none⟩ = some (.slice A0_3 l0_3.length c0_3) := (blk_cell BK251.out 3).trans rfl
              have hcz37_4 : wr.cell? ⟨gb251, 4, none⟩ = some (.slice A0_4 l0_4.length c0_4) := (blk_cell BK251.out 4).trans rfl
              have hfz37_0 := blk_frozen BK251.out 0
              have hfz37_1 := blk_frozen BK251.out 1
              have hfz37_2 := blk_frozen BK251.out 2
              have hfz37_3 := blk_frozen BK251.out 3
              have hfz37_4 := blk_frozen BK251.out 4
              go_wp2
              go_loopg [66] k2 (fun kq v66 w' => ∃ (x66_3 : Int), v66 = .int .i64 x66_3 ∧ Aside0 (boscagelaw11_Same.l1 kq (l0_4.length : Int) x66_3 a0_0 a0_1 l0_2 l0_3 l0_4 a1_0 a1_1 l1_2 l1_3 l1_4 = some r) ∧ Aside0 (kq ≤ k2) ∧ Aside0 (w'.heap[gb251]? = some (.cells #[.bool a0_0, .bool a0_1, (.slice A0_2 l0_2.length c0_2), (.slice A0_3 l0_3.length c0_3), (.slice A0_4 l0_4.length c0_4)] 42 (0, 0))) ∧ Aside0 (w'.heap[gb252]? = some (.cells #[.bool a1_0, .bool a1_1, (.slice A1_2 l1_2.length c1_2), (.slice A1_3 l1_3.length c1_3), (.slice A1_4 l1_4.length c1_4)] 42 (0, 0))) ∧ Aside0 (Below w.heap.size w w'))
              case atStart => exact ⟨(0), (by first | rfl | (simp; done) | (simp [*]; done)), H', ⟨Nat.le_refl _⟩, ⟨by (with_reducible repeat (first | refine blk_drewN ?_ _ | refine blk_drew ?_ | refine blk_alloc ?_ _)); exact BK251.out⟩, ⟨by (with_reducible repeat (first | refine blk_drewN ?_ _ | refine blk_drew ?_ | refine blk_alloc ?_ _)); exact BK252.out⟩, ⟨by repeat (first | (with_reducible first | exact HB.out | apply below_alloc | apply pw_below_drewN | apply below_drew1 | refine below_set ?_ GE251.out | refine below_set ?_ GE252.out) | exact HB.out)⟩⟩
              case round =>
                clear H'
                try clear c1
                try clear c2
                try clear p2
                try clear q2
                try clear hx2
                try clear c3
                try clear c6
                try clear c6b0
                try clear c6b1
                try clear c6b2
                try clear p6
                try clear c7
                try clear c10
                try clear c10b0
                try clear c10b1
                try clear c10b2
                try clear c11
                try clear c15
                try clear c16
                try clear c16b0
                try clear c16b1
                try clear c16b2
                try clear c17
                try clear c20
                try clear c23
                try clear p25
                try clear q25
                try clear hx25
                try clear c26
                try clear c27
                try clear c29
                try clear c29b0
                try clear c30
                try clear c30b0
                try clear c31
                try clear c31b0
                try clear c32
                try clear c32b0
                try clear c33
                try clear c33b0
                try clear c33b1
                try clear c36
                try clear hcz12_0
                try clear hcz12_1
                try clear hcz12_2
                try clear hcz12_3
                try clear hcz12_4
                try clear hcz13_0
                try clear hcz13_1
                try clear hcz13_2
                try clear hcz13_3
                try clear hcz13_4
                try clear hcz18_0
                try clear hcz18_1
                try clear hcz18_2
                try clear hcz18_3
                try clear hcz18_4
                try clear hcz19_0
                try clear hcz19_1
                try clear hcz19_2
                try clear hcz19_3
                try clear hcz19_4
                try clear hcz21_0
                try clear hcz21_1
                try clear hcz21_2
                try clear hcz21_3
                try clear hcz21_4
                try clear hcz22_0
                try clear hcz22_1
                try clear hcz22_2
                try clear hcz22_3
                try clear hcz22_4
                try clear hcz24_0
                try clear hcz24_1
                try clear hcz24_2
                try clear hcz24_3
                try clear hcz24_4
                try clear hcz25_0
                try clear hcz25_1
                try clear hcz25_2
                try clear hcz25_3
                try clear hcz25_4
                try clear hcz28_0
                try clear hcz28_1
                try clear hcz28_2
                try clear hcz28_3
                try clear hcz28_4
                try clear hcz37_0
                try clear hcz37_1
                try clear hcz37_2
                try clear hcz37_3
                try clear hcz37_4
                try clear hcz8_0
                try clear hcz8_1
                try clear hcz8_2
                try clear hcz8_3
                try clear hcz8_4
                try clear hcz9_0
                try clear hcz9_1
                try clear hcz9_2
                try clear hcz9_3
                try clear hcz9_4
                try clear hfz12_0
                try clear hfz12_1
                try clear hfz12_2
                try clear hfz12_3
                try clear hfz12_4
                try clear hfz13_0
                try clear hfz13_1
                try clear hfz13_2
                try clear hfz13_3
                try clear hfz13_4
                try clear hfz18_0
                try clear hfz18_1
                try clear hfz18_2
                try clear hfz18_3
                try clear hfz18_4
                try clear hfz19_0
                try clear hfz19_1
                try clear hfz19_2
                try clear hfz19_3
                try clear hfz19_4
                try clear hfz21_0
                try clear hfz21_1
                try clear hfz21_2
                try clear hfz21_3
                try clear hfz21_4
                try clear hfz22_0
                try clear hfz22_1
                try clear hfz22_2
                try clear hfz22_3
                try clear hfz22_4
                try clear hfz24_0
                try clear hfz24_1
                try clear hfz24_2
                try clear hfz24_3
                try clear hfz24_4
                try clear hfz25_0
                try clear hfz25_1
                try clear hfz25_2
                try clear hfz25_3
                try clear hfz25_4
                try clear hfz28_0
                try clear hfz28_1
                try clear hfz28_2
                try clear hfz28_3
                try clear hfz28_4
                try clear hfz37_0
                try clear hfz37_1
                try clear hfz37_2
                try clear hfz37_3
                try clear hfz37_4
                try clear hfz8_0
                try clear hfz8_1
                try clear hfz8_2
                try clear hfz8_3
                try clear hfz8_4
                try clear hfz9_0
                try clear hfz9_1
                try clear hfz9_2
                try clear hfz9_3
                try clear hfz9_4
                try clear hx254_0
                try clear hx255_0
                try clear p2
                try clear p254
                try clear p255
                try clear q254
                try clear q255
                obtain ⟨x66_3, rfl, HA, HK3, BK251, BK252, HB⟩ := hrel
                cases gk with
                | zero => exact absurd HA.out (by simp [boscagelaw11_Same.l1])
                | succ k3 =>
                  have H := HA.out
                  clear HA
                  simp only [boscagelaw11_Same.l1] at H
                  by_cases c38 : x66_3 < (l0_4.length : Int)
                  · rw [if_pos c38] at H
                    have c38b0 : decide (x66_3 < (l0_4.length : Int)) = true := decide_eq_true c38
                    clear c38
                    by_cases c39 : 0 ≤ x66_3
                    · rw [if_pos c39] at H
                      have c39b0 : decide (0 ≤ x66_3) = true := decide_eq_true c39
                      clear c39
                      by_cases c40 : x66_3 < (l0_4.length : Int)
                      · rw [if_pos c40] at H
                        have c40b0 : decide (x66_3 < (l0_4.length : Int)) = true := decide_eq_true c40
                        clear c40
                        by_cases c41 : x66_3 < (l1_4.length : Int)
                        · rw [if_pos c41] at H
                          have c41b0 : decide (x66_3 < (l1_4.length : Int)) = true := decide_eq_true c41
                          clear c41
                          replace H := Option.bind_eq_some_iff.mp H
                          obtain ⟨t258, A420, H⟩ := H
                          replace H : (if t258 = true then (boscagelaw11_Same.l1 k3 (l0_4.length : Int) (wrap64 (x66_3 + 1)) a0_0 a0_1 l0_2 l0_3 l0_4 a1_0 a1_1 l1_2 l1_3 l1_4) else (some false)) = some r := H
                          have A42 := Aside0.mk A420
                          clear A420
                          by_cases c43 : t258 = true
                          · subst c43
                            have H1 : (boscagelaw11_Same.l1 k3 (l0_4.length : Int) (wrap64 (x66_3 + 1)) a0_0 a0_1 l0_2 l0_3 l0_4 a1_0 a1_1 l1_2 l1_3 l1_4) = some r := by rw [if_pos rfl] at H; exact H
                            clear H
                            have H := H1
                            clear H1
                            have H' := Aside0.mk H
                            clear H
                            try go_wp2
                            have n0_ := Aside0.mk (blk_drew BK251.out)
                            have n1_ := Aside0.mk (blk_drew BK252.out)
                            have n2_ := Aside0.mk (below_drew1 HB.out)
                            clear BK251
                            clear BK252
                            clear HB
                            have BK251 := n0_
                            have BK252 := n1_
                            have HB := n2_
                            clear n0_ n1_ n2_
                            have p256 : 0 ≤ (x66_3 : Int) := of_decide_eq_true (by first | (with_reducible assumption) | assumption)
                            have q256 : x66_3 < (l0_4.length : Int) := of_decide_eq_true (by first | (with_reducible assumption) | assumption)
                            obtain ⟨ad256, A256_2, c256_2, A256_3, c256_3, A256_4, c256_4, e256, hx256_0, hx256_1, hx256_2, hx256_3, hx256_4, hl256_2, hi256_2, hl256_3, hi256_3, hl256_4, hi256_4⟩ := at_T42 HR0_4.out x66_3 p256 q256
                            have hw256_4 := hx256_4
                            have hw256_3 := hx256_3
                            have hw256_2 := hx256_2
                            have hw256_1 := hx256_1
                            have hw256_0 := hx256_0
                            cases e256
                            replace hx256_0 := (HB.out.cell (World.block_lt_of_cell? w _ hx256_0)).trans hx256_0
                            replace hx256_1 := (HB.out.cell (World.block_lt_of_cell? w _ hx256_1)).trans hx256_1
                            replace hx256_2 := (HB.out.cell (World.block_lt_of_cell? w _ hx256_2)).trans hx256_2
                            replace hx256_3 := (HB.out.cell (World.block_lt_of_cell? w _ hx256_3)).trans hx256_3
                            replace hx256_4 := (HB.out.cell (World.block_lt_of_cell? w _ hx256_4)).trans hx256_4
                            have HR256_2 := Aside0.mk hi256_2
                            have HC256_2 := Aside0.mk hl256_2
                            clear hi256_2 hl256_2
                            have HR256_3 := Aside0.mk hi256_3
                            have HC256_3 := Aside0.mk hl256_3
                            clear hi256_3 hl256_3
                            have HR256_4 := Aside0.mk hi256_4
                            have HC256_4 := Aside0.mk hl256_4
                            clear hi256_4 hl256_4
                            replace p256 := eq_true p256
                            replace q256 := eq_true q256
                            have p257 : 0 ≤ (x66_3 : Int) := of_decide_eq_true (by first | (with_reducible assumption) | assumption)
                            have q257 : x66_3 < (l1_4.length : Int) := of_decide_eq_true (by first | (with_reducible assumption) | assumption)
                            obtain ⟨ad257, A257_2, c257_2, A257_3, c257_3, A257_4, c257_4, e257, hx257_0, hx257_1, hx257_2, hx257_3, hx257_4, hl257_2, hi257_2, hl257_3, hi257_3, hl257_4, hi257_4⟩ := at_T42 HR1_4.out x66_3 p257 q257
                            have hw257_4 := hx257_4
                            have hw257_3 := hx257_3
                            have hw257_2 := hx257_2
                            have hw257_1 := hx257_1
                            have hw257_0 := hx257_0
                            cases e257
                            replace hx257_0 := (HB.out.cell (World.block_lt_of_cell? w _ hx257_0)).trans hx257_0
                            replace hx257_1 := (HB.out.cell (World.block_lt_of_cell? w _ hx257_1)).trans hx257_1
                            replace hx257_2 := (HB.out.cell (World.block_lt_of_cell? w _ hx257_2)).trans hx257_2
                            replace hx257_3 := (HB.out.cell (World.block_lt_of_cell? w _ hx257_3)).trans hx257_3
                            replace hx257_4 := (HB.out.cell (World.block_lt_of_cell? w _ hx257_4)).trans hx257_4
                            have HR257_2 := Aside0.mk hi257_2
                            have HC257_2 := Aside0.mk hl257_2
                            clear hi257_2 hl257_2
                            have HR257_3 := Aside0.mk hi257_3
                            have HC257_3 := Aside0.mk hl257_3
                            clear hi257_3 hl257_3
                            have HR257_4 := Aside0.mk hi257_4
                            have HC257_4 := Aside0.mk hl257_4
                            clear hi257_4 hl257_4
                            replace p257 := eq_true p257
                            replace q257 := eq_true q257
                            refine start_ (n := 12) (S := fun w' => w'.cell? ⟨gb251, 0, none⟩ = some (.bool a0_0) ∧ w'.cell? ⟨gb251, 1, none⟩ = some (.bool a0_1) ∧ w'.cell? ⟨gb251, 2, none⟩ = some (.slice A0_2 l0_2.length c0_2) ∧ w'.cell? ⟨gb251, 3, none⟩ = some (.slice A0_3 l0_3.length c0_3) ∧ w'.cell? ⟨gb251, 4, none⟩ = some (.slice (some ad256) l0_4.length c0_4) ∧ w'.cell? ⟨gb252, 0, none⟩ = some (.bool a1_0) ∧ w'.cell? ⟨gb252, 1, none⟩ = some (.bool a1_1) ∧ w'.cell? ⟨gb252, 2, none⟩ = some (.slice A1_2 l1_2.length c1_2) ∧ w'.cell? ⟨gb252, 3, none⟩ = some (.slice A1_3 l1_3.length c1_3) ∧ w'.cell? ⟨gb252, 4, none⟩ = some (.slice (some ad257) l1_4.length c1_4) ∧ w'.cell? (ad256.add ((x66_3).toNat * 5)) = some (.bool ((rd_T42 l0_4 x66_3).f0)) ∧ w'.cell? ⟨(ad256.add ((x66_3).toNat * 5)).block, (ad256.add ((x66_3).toNat * 5)).off + 1, none⟩ = some (.bool ((rd_T42 l0_4 x66_3).f1)) ∧ w'.cell? ⟨(ad256.add ((x66_3).toNat * 5)).block, (ad256.add ((x66_3).toNat * 5)).off + 2, none⟩ = some (.slice A256_2 ((rd_T42 l0_4 x66_3).f2).length c256_2) ∧ w'.cell? ⟨(ad256.add ((x66_3).toNat * 5)).block, (ad256.add ((x66_3).toNat * 5)).off + 3, none⟩ = some (.slice A256_3 ((rd_T42 l0_4 x66_3).f3).length c256_3) ∧ w'.cell? ⟨(ad256.add ((x66_3).toNat * 5)).block, (ad256.add ((x66_3).toNat * 5)).off + 4, none⟩ = some (.slice A256_4 ((rd_T42 l0_4 x66_3).f4).length c256_4) ∧ w'.cell? (ad257.add ((x66_3).toNat * 5)) = some (.bool ((rd_T42 l1_4 x66_3).f0)) ∧ w'.cell? ⟨(ad257.add ((x66_3).toNat * 5)).block, (ad257.add ((x66_3).toNat * 5)).off + 1, none⟩ = some (.bool ((rd_T42 l1_4 x66_3).f1)) ∧ w'.cell? ⟨(ad257.add ((x66_3).toNat * 5)).block, (ad257.add ((x66_3).toNat * 5)).off + 2, none⟩ = some (.slice A257_2 ((rd_T42 l1_4 x66_3).f2).length c257_2) ∧ w'.cell? ⟨(ad257.add ((x66_3).toNat * 5)).block, (ad257.add ((x66_3).toNat * 5)).off + 3, none⟩ = some (.slice A257_3 ((rd_T42 l1_4 x66_3).f3).length c257_3) ∧ w'.cell? ⟨(ad257.add ((x66_3).toNat * 5)).block, (ad257.add ((x66_3).toNat * 5)).off + 4, none⟩ = some (.slice A257_4 ((rd_T42 l1_4 x66_3).f4).length c257_4)) (ds := []) #[N_,N_,N_,N_,N_,N_,N_,N_,N_,N_,N_,N_] (by kernel_rfl) rfl rfl ⟨(blk_cell BK251.out 0).trans rfl, (blk_cell BK251.out 1).trans rfl, (blk_cell BK251.out 2).trans rfl, (blk_cell BK251.out 3).trans rfl, (blk_cell BK251.out 4).trans rfl, (blk_cell BK252.out 0).trans rfl, (blk_cell BK252.out 1).trans rfl, (blk_cell BK252.out 2).trans rfl, (blk_cell BK252.out 3).trans rfl, (blk_cell BK252.out 4).trans rfl, ((HB.out.cell (World.block_lt_of_cell? w _ hw256_0)).trans hw256_0), ((HB.out.cell (World.block_lt_of_cell? w _ hw256_1)).trans hw256_1), ((HB.out.cell (World.block_lt_of_cell? w _ hw256_2)).trans hw256_2), ((HB.out.cell (World.block_lt_of_cell? w _ hw256_3)).trans hw256_3), ((HB.out.cell (World.block_lt_of_cell? w _ hw256_4)).trans hw256_4), ((HB.out.cell (World.block_lt_of_cell? w _ hw257_0)).trans hw257_0), ((HB.out.cell (World.block_lt_of_cell? w _ hw257_1)).trans hw257_1), ((HB.out.cell (World.block_lt_of_cell? w _ hw257_2)).trans hw257_2), ((HB.out.cell (World.block_lt_of_cell? w _ hw257_3)).trans hw257_3), ((HB.out.cell (World.block_lt_of_cell? w _ hw257_4)).trans hw257_4)⟩ (fun hHeld => ?_); refine with_tabW boscagelaw11_Same.tab12 boscagelaw11_Same.bits12 (fun HT_ HW_ => ?_)
                            generalize wr.drew = w44 at BK251 BK252 HB HR256_2 HR256_3 HR256_4 HR257_2 HR257_3 HR257_4 hx256_0 hx256_1 hx256_2 hx256_3 hx256_4 hx257_0 hx257_1 hx257_2 hx257_3 hx257_4 hHeld ⊢
                            refine pure_ (i := 0) (N := some 69) (v := ?_) (a' := ?_) #[Y_,N_,N_,N_,N_,N_,N_,N_,N_,N_,N_,N_] rfl rfl (any_of HT_.out (by kernel_rfl)) (fun _ _ _ h => h) (Or.inl ⟨by rfl, ?_⟩) ?_ ?_
                            rotate_left; · intro w'; go_simp; with_reducible rfl
                            rotate_left; · simp only [Act.put, u1_, u2_, u3_, i64_w, i32_w]; rfl
                            refine pure_ (i := 2) (N := some 71) (v := ?_) (a' := ?_) #[Y_,N_,Y_,N_,N_,N_,N_,N_,N_,N_,N_,N_] rfl rfl (any_of HT_.out (by kernel_rfl)) (fun _ _ _ h => h) (Or.inl ⟨by rfl, ?_⟩) ?_ ?_
                            rotate_left; · intro w'; go_simp; with_reducible rfl
                            rotate_left; · simp only [Act.put, u1_, u2_, u3_, i64_w, i32_w]; rfl
                            refine pure_ (i := 5) (N := some 74) (v := ?_) (a' := ?_) #[Y_,N_,Y_,N_,N_,Y_,N_,N_,N_,N_,N_,N_] rfl rfl (any_of HT_.out (by kernel_rfl)) (fun _ _ _ h => h) (Or.inl ⟨by rfl, ?_⟩) ?_ ?_
                            rotate_left; · intro w'; go_simp; with_reducible rfl
                            rotate_left; · simp only [Act.put, u1_, u2_, u3_, i64_w, i32_w]; rfl
                            refine pure_ (i := 7) (N := some 76) (v := ?_) (a' := ?_) #[Y_,N_,Y_,N_,N_,Y_,N_,Y_,N_,N_,N_,N_] rfl rfl (any_of HT_.out (by kernel_rfl)) (fun _ _ _ h => h) (Or.inl ⟨by rfl, ?_⟩) ?_ ?_
                            rotate_left; · intro w'; go_simp; with_reducible rfl
                            rotate_left; · simp only [Act.put, u1_, u2_, u3_, i64_w, i32_w]; rfl
                            refine take_ (i := 1) (N := some 70) (v := ?_) (a' := ?_) #[Y_,Y_,Y_,N_,N_,Y_,N_,Y_,N_,N_,N_,N_] rfl rfl (take_ofW HT_.out HW_.out (by kernel_rfl)) (fun _ _ _ h => h) (Or.inl ⟨by rfl, ?_⟩) hHeld ?_ ?_
                            rotate_left; · rintro w' ⟨s0, s1, s2, s3, s4, s5, s6, s7, s8, s9, s10, s11, s12, s13, s14, s15, s16, s17, s18, s19⟩; go_simp; with_reducible rfl
                            rotate_left; · simp only [Act.put, u1_, u2_, u3_, i64_w, i32_w]; rfl
                            refine pure_ (i := 3) (N := some 72) (v := ?_) (a' := ?_) #[Y_,Y_,Y_,Y_,N_,Y_,N_,Y_,N_,N_,N_,N_] rfl rfl (any_of HT_.out (by kernel_rfl)) (fun _ _ _ h => h) (Or.inl ⟨by rfl, ?_⟩) ?_ ?_
                            rotate_left; · intro w'; go_simp; with_reducible rfl
                            rotate_left; · simp only [Act.put, u1_, u2_, u3_, i64_w, i32_w]; rfl
                            refine take_ (i := 4) (N := some 73) (v := ?_) (a' := ?_) #[Y_,Y_,Y_,Y_,Y_,Y_,N_,Y_,N_,N_,N_,N_] rfl rfl (take_ofW HT_.out HW_.out (by kernel_rfl)) (fun _ _ _ h => h) (Or.inl ⟨by rfl, ?_⟩) hHeld ?_ ?_
                            rotate_left; · rintro w' ⟨s0, s1, s2, s3, s4, s5, s6, s7, s8, s9, s10, s11, s12, s13, s14, s15, s16, s17, s18, s19⟩; go_simp; with_reducible rfl
                            rotate_left; · simp only [Act.put, u1_, u2_, u3_, i64_w, i32_w]; rfl
                            refine take_ (i := 6) (N := some 75) (v := ?_) (a' := ?_) #[Y_,Y_,Y_,Y_,Y_,Y_,Y_,Y_,N_,N_,N_,N_] rfl rfl (take_ofW HT_.out HW_.out (by kernel_rfl)) (fun _ _ _ h => h) (Or.inl ⟨by rfl, ?_⟩) hHeld ?_ ?_
                            rotate_left; · rintro w' ⟨s0, s1, s2, s3, s4, s5, s6, s7, s8, s9, s10, s11, s12, s13, s14, s15, s16, s17, s18, s19⟩; go_simp; with_reducible rfl
                            rotate_left; · simp only [Act.put, u1_, u2_, u3_, i64_w, i32_w]; rfl
                            refine pure_ (i := 8) (N := some 77) (v := ?_) (a' := ?_) #[Y_,Y_,Y_,Y_,Y_,Y_,Y_,Y_,Y_,N_,N_,N_] rfl rfl (any_of HT_.out (by kernel_rfl)) (fun _ _ _ h => h) (Or.inl ⟨by rfl, ?_⟩) ?_ ?_
                            rotate_left; · intro w'; go_simp; with_reducible rfl
                            rotate_left; · simp only [Act.put, u1_, u2_, u3_, i64_w, i32_w]; rfl
                            refine take_ (i := 9) (N := some 78) (v := ?_) (a' := ?_) #[Y_,Y_,Y_,Y_,Y_,Y_,Y_,Y_,Y_,Y_,N_,N_] rfl rfl (take_ofW HT_.out HW_.out (by kernel_rfl)) (fun _ _ _ h => h) (Or.inl ⟨by rfl, ?_⟩) hHeld ?_ ?_
                            rotate_left; · rintro w' ⟨s0, s1, s2, s3, s4, s5, s6, s7, s8, s9, s10, s11, s12, s13, s14, s15, s16, s17, s18, s19⟩; go_simp; with_reducible rfl
                            rotate_left; · simp only [Act.put, u1_, u2_, u3_, i64_w, i32_w]; rfl
                            refine one_ (i := 10) (N := some 79) #[Y_,Y_,Y_,Y_,Y_,Y_,Y_,Y_,Y_,Y_,Y_,N_] rfl rfl (one_of HT_.out (by kernel_rfl)) (by decide) (fun K hK => ?_)
                            refine goes_ Tryz.func17 (by kernel_rfl) rfl #[.agg #[.bool ((rd_T42 l0_4 x66_3).f0), .bool ((rd_T42 l0_4 x66_3).f1), .slice A256_2 ((rd_T42 l0_4 x66_3).f2).length c256_2, .slice A256_3 ((rd_T42 l0_4 x66_3).f3).length c256_3, .slice A256_4 ((rd_T42 l0_4 x66_3).f4).length c256_4], .agg #[.bool ((rd_T42 l1_4 x66_3).f0), .bool ((rd_T42 l1_4 x66_3).f1), .slice A257_2 ((rd_T42 l1_4 x66_3).f2).length c257_2, .slice A257_3 ((rd_T42 l1_4 x66_3).f3).length c257_3, .slice A257_4 ((rd_T42 l1_4 x66_3).f4).length c257_4]] (by rfl) rfl rfl (by (try simp only [List.map_toArray, List.map_cons, List.map_nil]); first | done | rfl | (simp only [List.length_drop, List.length_take]; rfl)) ?_
                            with_reducible refine (ih k3 (by have := HJ2.out; have := HK2.out; have := HK3.out; omega) ((rd_T42 l0_4 x66_3).f0) ((rd_T42 l0_4 x66_3).f1) _ _ ((rd_T42 l0_4 x66_3).f2) _ _ ((rd_T42 l0_4 x66_3).f3) _ _ ((rd_T42 l0_4 x66_3).f4) ((rd_T42 l1_4 x66_3).f0) ((rd_T42 l1_4 x66_3).f1) _ _ ((rd_T42 l1_4 x66_3).f2) _ _ ((rd_T42 l1_4 x66_3).f3) _ _ ((rd_T42 l1_4 x66_3).f4) true _ ?side1 ?side2 ?side3 ?side4 ?side5 ?side6 ?side7 ?side8 ?side9 ?side10 ?side11 ?side12 A42.out).mono ?_
                            (case side1 => repeat (first | exact (Kd.C_below HR256_2.out HB.out) | (with_reducible refine Kd.C_alloc ?_ _) | (with_reducible refine Kd.C_drewN ?_ _) | (with_reducible refine Kd.C_drew ?_)))
                            (case side2 => exact HC256_2.out)
                            (case side3 => repeat (first | exact (Kd.C_below HR256_3.out HB.out) | (with_reducible refine Kd.C_alloc ?_ _) | (with_reducible refine Kd.C_drewN ?_ _) | (with_reducible refine Kd.C_drew ?_)))
                            (case side4 => exact HC256_3.out)
                            (case side5 => repeat (first | exact (Kd.C_below HR256_4.out HB.out) | (with_reducible refine Kd.C_alloc ?_ _) | (with_reducible refine Kd.C_drewN ?_ _) | (with_reducible refine Kd.C_drew ?_)))
                            (case side6 => exact HC256_4.out)
                            (case side7 => repeat (first | exact (Kd.C_below HR257_2.out HB.out) | (with_reducible refine Kd.C_alloc ?_ _) | (with_reducible refine Kd.C_drewN ?_ _) | (with_reducible refine Kd.C_drew ?_)))
                            (case side8 => exact HC257_2.out)
                            (case side9 => repeat (first | exact (Kd.C_below HR257_3.out HB.out) | (with_reducible refine Kd.C_alloc ?_ _) | (with_reducible refine Kd.C_drewN ?_ _) | (with_reducible refine Kd.C_drew ?_)))
                            (case side10 => exact HC257_3.out)
                            (case side11 => repeat (first | exact (Kd.C_below HR257_4.out HB.out) | (with_reducible refine Kd.C_alloc ?_ _) | (with_reducible refine Kd.C_drewN ?_ _) | (with_reducible refine Kd.C_drew ?_)))
                            (case side12 => exact HC257_4.out)
                            rintro e w45 ⟨rfl, hb⟩
                            refine ⟨_, rfl, ?_⟩
                            have n0_ := Aside0.mk (blk_below (g := gb251) (o := .cells #[.bool a0_0, .bool a0_1, .slice A0_2 l0_2.length c0_2, .slice A0_3 l0_3.length c0_3, .slice (some ad256) l0_4.length c0_4] 42 (0, 0)) (by (with_reducible repeat (first | refine blk_drewN ?_ _ | refine blk_drew ?_ | refine blk_alloc ?_ _)); exact BK251.out) hb)
                            have n1_ := Aside0.mk (blk_below (g := gb252) (o := .cells #[.bool a1_0, .bool a1_1, .slice A1_2 l1_2.length c1_2, .slice A1_3 l1_3.length c1_3, .slice (some ad257) l1_4.length c1_4] 42 (0, 0)) (by (with_reducible repeat (first | refine blk_drewN ?_ _ | refine blk_drew ?_ | refine blk_alloc ?_ _)); exact BK252.out) hb)
                            have n2_ := Aside0.mk (below_step (by repeat (first | (with_reducible first | exact HB.out | apply below_alloc | apply pw_below_drewN | apply below_drew1 | refine below_set ?_ GE251.out | refine below_set ?_ GE252.out) | exact HB.out)) hb)
                            clear BK251
                            clear BK252
                            clear HB
                            have BK251 := n0_
                            have BK252 := n1_
                            have HB := n2_
                            clear n0_ n1_ n2_
                            (try clear hb)
                            (try clear hb2)
                            (try clear hk)
                            (try clear hi)
                            refine hK.out _ _ ⟨(blk_cell BK251.out 0).trans rfl, (blk_cell BK251.out 1).trans rfl, (blk_cell BK251.out 2).trans rfl, (blk_cell BK251.out 3).trans rfl, (blk_cell BK251.out 4).trans rfl, (blk_cell BK252.out 0).trans rfl, (blk_cell BK252.out 1).trans rfl, (blk_cell BK252.out 2).trans rfl, (blk_cell BK252.out 3).trans rfl, (blk_cell BK252.out 4).trans rfl, ((HB.out.cell (World.block_lt_of_cell? w _ hw256_0)).trans hw256_0), ((HB.out.cell (World.block_lt_of_cell? w _ hw256_1)).trans hw256_1), ((HB.out.cell (World.block_lt_of_cell? w _ hw256_2)).trans hw256_2), ((HB.out.cell (World.block_lt_of_cell? w _ hw256_3)).trans hw256_3), ((HB.out.cell (World.block_lt_of_cell? w _ hw256_4)).trans hw256_4), ((HB.out.cell (World.block_lt_of_cell? w _ hw257_0)).trans hw257_0), ((HB.out.cell (World.block_lt_of_cell? w _ hw257_1)).trans hw257_1), ((HB.out.cell (World.block_lt_of_cell? w _ hw257_2)).trans hw257_2), ((HB.out.cell (World.block_lt_of_cell? w _ hw257_3)).trans hw257_3), ((HB.out.cell (World.block_lt_of_cell? w _ hw257_4)).trans hw257_4)⟩ (fun hHeld => ?_)
                            clear hK K
                            refine norm_ (a' := ?_) ?_ ?_
                            rotate_left; · show Act.put _ (some 79) _ = _; simp only [Act.put, u1_, u2_, u3_, i64_w, i32_w]; rfl
                            refine pure_ (i := 11) (N := some 80) (v := ?_) (a' := ?_) #[Y_,Y_,Y_,Y_,Y_,Y_,Y_,Y_,Y_,Y_,Y_,Y_] rfl rfl (any_of HT_.out (by kernel_rfl)) (fun _ _ _ h => h) (Or.inl ⟨by rfl, ?_⟩) ?_ ?_
                            rotate_left; · intro w'; go_simp; with_reducible rfl
                            rotate_left; · simp only [Act.put, u1_, u2_, u3_, i64_w, i32_w]; rfl
                            refine done_ (done_of HT_.out (by kernel_rfl)) ?_
                            try go_wp2
                            go_roundg k3
                            case measure => have := HJ2.out; have := HK2.out; have := HK3.out; omega
                            case rel => exact ⟨(wrap64 (x66_3 + 1)), (by first | rfl | (simp; done) | (simp [*]; done)), H', ⟨by have := HJ2.out; have := HK2.out; have := HK3.out; omega⟩, ⟨by (with_reducible repeat (first | refine blk_drewN ?_ _ | refine blk_drew ?_ | refine blk_alloc ?_ _)); exact BK251.out⟩, ⟨by (with_reducible repeat (first | refine blk_drewN ?_ _ | refine blk_drew ?_ | refine blk_alloc ?_ _)); exact BK252.out⟩, ⟨by repeat (first | (with_reducible first | exact HB.out | apply below_alloc | apply pw_below_drewN | apply below_drew1 | refine below_set ?_ GE251.out | refine below_set ?_ GE252.out) | exact HB.out)⟩⟩
                          · replace c43 := Bool.eq_false_iff.mpr c43
                            subst c43
                            have H1 : (some false) = some r := by rw [if_neg (show ¬ (false = true) by decide)] at H; exact H
                            clear H
                            have H := H1
                            clear H1
                            obtain rfl := Option.some.inj H
                            try go_wp2
                            have n0_ := Aside0.mk (blk_drew BK251.out)
                            have n1_ := Aside0.mk (blk_drew BK252.out)
                            have n2_ := Aside0.mk (below_drew1 HB.out)
                            clear BK251
                            clear BK252
                            clear HB
                            have BK251 := n0_
                            have BK252 := n1_
                            have HB := n2_
                            clear n0_ n1_ n2_
                            have p256 : 0 ≤ (x66_3 : Int) := of_decide_eq_true (by first | (with_reducible assumption) | assumption)
                            have q256 : x66_3 < (l0_4.length : Int) := of_decide_eq_true (by first | (with_reducible assumption) | assumption)
                            obtain ⟨ad256, A256_2, c256_2, A256_3, c256_3, A256_4, c256_4, e256, hx256_0, hx256_1, hx256_2, hx256_3, hx256_4, hl256_2, hi256_2, hl256_3, hi256_3, hl256_4, hi256_4⟩ := at_T42 HR0_4.out x66_3 p256 q256
                            have hw256_4 := hx256_4
                            have hw256_3 := hx256_3
                            have hw256_2 := hx256_2
                            have hw256_1 := hx256_1
                            have hw256_0 := hx256_0
                            cases e256
                            replace hx256_0 := (HB.out.cell (World.block_lt_of_cell? w _ hx256_0)).trans hx256_0
                            replace hx256_1 := (HB.out.cell (World.block_lt_of_cell? w _ hx256_1)).trans hx256_1
                            replace hx256_2 := (HB.out.cell (World.block_lt_of_cell? w _ hx256_2)).trans hx256_2
                            replace hx256_3 := (HB.out.cell (World.block_lt_of_cell? w _ hx256_3)).trans hx256_3
                            replace hx256_4 := (HB.out.cell (World.block_lt_of_cell? w _ hx256_4)).trans hx256_4
                            have HR256_2 := Aside0.mk hi256_2
                            have HC256_2 := Aside0.mk hl256_2
                            clear hi256_2 hl256_2
                            have HR256_3 := Aside0.mk hi256_3
                            have HC256_3 := Aside0.mk hl256_3
                            clear hi256_3 hl256_3
                            have HR256_4 := Aside0.mk hi256_4
                            have HC256_4 := Aside0.mk hl256_4
                            clear hi256_4 hl256_4
                            replace p256 := eq_true p256
                            replace q256 := eq_true q256
                            have p257 : 0 ≤ (x66_3 : Int) := of_decide_eq_true (by first | (with_reducible assumption) | assumption)
                            have q257 : x66_3 < (l1_4.length : Int) := of_decide_eq_true (by first | (with_reducible assumption) | assumption)
                            obtain ⟨ad257, A257_2, c257_2, A257_3, c257_3, A257_4, c257_4, e257, hx257_0, hx257_1, hx257_2, hx257_3, hx257_4, hl257_2, hi257_2, hl257_3, hi257_3, hl257_4, hi257_4⟩ := at_T42 HR1_4.out x66_3 p257 q257
                            have hw257_4 := hx257_4
                            have hw257_3 := hx257_3
                            have hw257_2 := hx257_2
                            have hw257_1 := hx257_1
                            have hw257_0 := hx257_0
                            cases e257
                            replace hx257_0 := (HB.out.cell (World.block_lt_of_cell? w _ hx257_0)).trans hx257_0
                            replace hx257_1 := (HB.out.cell (World.block_lt_of_cell? w _ hx257_1)).trans hx257_1
                            replace hx257_2 := (HB.out.cell (World.block_lt_of_cell? w _ hx257_2)).trans hx257_2
                            replace hx257_3 := (HB.out.cell (World.block_lt_of_cell? w _ hx257_3)).trans hx257_3
                            replace hx257_4 := (HB.out.cell (World.block_lt_of_cell? w _ hx257_4)).trans hx257_4
                            have HR257_2 := Aside0.mk hi257_2
                            have HC257_2 := Aside0.mk hl257_2
                            clear hi257_2 hl257_2
                            have HR257_3 := Aside0.mk hi257_3
                            have HC257_3 := Aside0.mk hl257_3
                            clear hi257_3 hl257_3
                            have HR257_4 := Aside0.mk hi257_4
                            have HC257_4 := Aside0.mk hl257_4
                            clear hi257_4 hl257_4
                            replace p257 := eq_true p257
                            replace q257 := eq_true q257
                            refine start_ (n := 12) (S := fun w' => w'.cell? ⟨gb251, 0, none⟩ = some (.bool a0_0) ∧ w'.cell? ⟨gb251, 1, none⟩ = some (.bool a0_1) ∧ w'.cell? ⟨gb251, 2, none⟩ = some (.slice A0_2 l0_2.length c0_2) ∧ w'.cell? ⟨gb251, 3, none⟩ = some (.slice A0_3 l0_3.length c0_3) ∧ w'.cell? ⟨gb251, 4, none⟩ = some (.slice (some ad256) l0_4.length c0_4) ∧ w'.cell? ⟨gb252, 0, none⟩ = some (.bool a1_0) ∧ w'.cell? ⟨gb252, 1, none⟩ = some (.bool a1_1) ∧ w'.cell? ⟨gb252, 2, none⟩ = some (.slice A1_2 l1_2.length c1_2) ∧ w'.cell? ⟨gb252, 3, none⟩ = some (.slice A1_3 l1_3.length c1_3) ∧ w'.cell? ⟨gb252, 4, none⟩ = some (.slice (some ad257) l1_4.length c1_4) ∧ w'.cell? (ad256.add ((x66_3).toNat * 5)) = some (.bool ((rd_T42 l0_4 x66_3).f0)) ∧ w'.cell? ⟨(ad256.add ((x66_3).toNat * 5)).block, (ad256.add ((x66_3).toNat * 5)).off + 1, none⟩ = some (.bool ((rd_T42 l0_4 x66_3).f1)) ∧ w'.cell? ⟨(ad256.add ((x66_3).toNat * 5)).block, (ad256.add ((x66_3).toNat * 5)).off + 2, none⟩ = some (.slice A256_2 ((rd_T42 l0_4 x66_3).f2).length c256_2) ∧ w'.cell? ⟨(ad256.add ((x66_3).toNat * 5)).block, (ad256.add ((x66_3).toNat * 5)).off + 3, none⟩ = some (.slice A256_3 ((rd_T42 l0_4 x66_3).f3).length c256_3) ∧ w'.cell? ⟨(ad256.add ((x66_3).toNat * 5)).block, (ad256.add ((x66_3).toNat * 5)).off + 4, none⟩ = some (.slice A256_4 ((rd_T42 l0_4 x66_3).f4).length c256_4) ∧ w'.cell? (ad257.add ((x66_3).toNat * 5)) = some (.bool ((rd_T42 l1_4 x66_3).f0)) ∧ w'.cell? ⟨(ad257.add ((x66_3).toNat * 5)).block, (ad257.add ((x66_3).toNat * 5)).off + 1, none⟩ = some (.bool ((rd_T42 l1_4 x66_3).f1)) ∧ w'.cell? ⟨(ad257.add ((x66_3).toNat * 5)).block, (ad257.add ((x66_3).toNat * 5)).off + 2, none⟩ = some (.slice A257_2 ((rd_T42 l1_4 x66_3).f2).length c257_2) ∧ w'.cell? ⟨(ad257.add ((x66_3).toNat * 5)).block, (ad257.add ((x66_3).toNat * 5)).off + 3, none⟩ = some (.slice A257_3 ((rd_T42 l1_4 x66_3).f3).length c257_3) ∧ w'.cell? ⟨(ad257.add ((x66_3).toNat * 5)).block, (ad257.add ((x66_3).toNat * 5)).off + 4, none⟩ = some (.slice A257_4 ((rd_T42 l1_4 x66_3).f4).length c257_4)) (ds := []) #[N_,N_,N_,N_,N_,N_,N_,N_,N_,N_,N_,N_] (by kernel_rfl) rfl rfl ⟨(blk_cell BK251.out 0).trans rfl, (blk_cell BK251.out 1).trans rfl, (blk_cell BK251.out 2).trans rfl, (blk_cell BK251.out 3).trans rfl, (blk_cell BK251.out 4).trans rfl, (blk_cell BK252.out 0).trans rfl, (blk_cell BK252.out 1).trans rfl, (blk_cell BK252.out 2).trans rfl, (blk_cell BK252.out 3).trans rfl, (blk_cell BK252.out 4).trans rfl, ((HB.out.cell (World.block_lt_of_cell? w _ hw256_0)).trans hw256_0), ((HB.out.cell (World.block_lt_of_cell? w _ hw256_1)).trans hw256_1), ((HB.out.cell (World.block_lt_of_cell? w _ hw256_2)).trans hw256_2), ((HB.out.cell (World.block_lt_of_cell? w _ hw256_3)).trans hw256_3), ((HB.out.cell (World.block_lt_of_cell? w _ hw256_4)).trans hw256_4), ((HB.out.cell (World.block_lt_of_cell? w _ hw257_0)).trans hw257_0), ((HB.out.cell (World.block_lt_of_cell? w _ hw257_1)).trans hw257_1), ((HB.out.cell (World.block_lt_of_cell? w _ hw257_2)).trans hw257_2), ((HB.out.cell (World.block_lt_of_cell? w _ hw257_3)).trans hw257_3), ((HB.out.cell (World.block_lt_of_cell? w _ hw257_4)).trans hw257_4)⟩ (fun hHeld => ?_); refine with_tabW boscagelaw11_Same.tab12 boscagelaw11_Same.bits12 (fun HT_ HW_ => ?_)
                            generalize wr.drew = w46 at BK251 BK252 HB HR256_2 HR256_3 HR256_4 HR257_2 HR257_3 HR257_4 hx256_0 hx256_1 hx256_2 hx256_3 hx256_4 hx257_0 hx257_1 hx257_2 hx257_3 hx257_4 hHeld ⊢
                            refine pure_ (i := 0) (N := some 69) (v := ?_) (a' := ?_) #[Y_,N_,N_,N_,N_,N_,N_,N_,N_,N_,N_,N_] rfl rfl (any_of HT_.out (by kernel_rfl)) (fun _ _ _ h => h) (Or.inl ⟨by rfl, ?_⟩) ?_ ?_
                            rotate_left; · intro w'; go_simp; with_reducible rfl
                            rotate_left; · simp only [Act.put, u1_, u2_, u3_, i64_w, i32_w]; rfl
                            refine pure_ (i := 2) (N := some 71) (v := ?_) (a' := ?_) #[Y_,N_,Y_,N_,N_,N_,N_,N_,N_,N_,N_,N_] rfl rfl (any_of HT_.out (by kernel_rfl)) (fun _ _ _ h => h) (Or.inl ⟨by rfl, ?_⟩) ?_ ?_
                            rotate_left; · intro w'; go_simp; with_reducible rfl
                            rotate_left; · simp only [Act.put, u1_, u2_, u3_, i64_w, i32_w]; rfl
                            refine pure_ (i := 5) (N := some 74) (v := ?_) (a' := ?_) #[Y_,N_,Y_,N_,N_,Y_,N_,N_,N_,N_,N_,N_] rfl rfl (any_of HT_.out (by kernel_rfl)) (fun _ _ _ h => h) (Or.inl ⟨by rfl, ?_⟩) ?_ ?_
                            rotate_left; · intro w'; go_simp; with_reducible rfl
                            rotate_left; · simp only [Act.put, u1_, u2_, u3_, i64_w, i32_w]; rfl
                            refine pure_ (i := 7) (N := some 76) (v := ?_) (a' := ?_) #[Y_,N_,Y_,N_,N_,Y_,N_,Y_,N_,N_,N_,N_] rfl rfl (any_of HT_.out (by kernel_rfl)) (fun _ _ _ h => h) (Or.inl ⟨by rfl, ?_⟩) ?_ ?_
                            rotate_left; · intro w'; go_simp; with_reducible rfl
                            rotate_left; · simp only [Act.put, u1_, u2_, u3_, i64_w, i32_w]; rfl
                            refine take_ (i := 1) (N := some 70) (v := ?_) (a' := ?_) #[Y_,Y_,Y_,N_,N_,Y_,N_,Y_,N_,N_,N_,N_] rfl rfl (take_ofW HT_.out HW_.out (by kernel_rfl)) (fun _ _ _ h => h) (Or.inl ⟨by rfl, ?_⟩) hHeld ?_ ?_
                            rotate_left; · rintro w' ⟨s0, s1, s2, s3, s4, s5, s6, s7, s8, s9, s10, s11, s12, s13, s14, s15, s16, s17, s18, s19⟩; go_simp; with_reducible rfl
                            rotate_left; · simp only [Act.put, u1_, u2_, u3_, i64_w, i32_w]; rfl
                            refine pure_ (i := 3) (N := some 72) (v := ?_) (a' := ?_) #[Y_,Y_,Y_,Y_,N_,Y_,N_,Y_,N_,N_,N_,N_] rfl rfl (any_of HT_.out (by kernel_rfl)) (fun _ _ _ h => h) (Or.inl ⟨by rfl, ?_⟩) ?_ ?_
                            rotate_left; · intro w'; go_simp; with_reducible rfl
                            rotate_left; · simp only [Act.put, u1_, u2_, u3_, i64_w, i32_w]; rfl
                            refine take_ (i := 4) (N := some 73) (v := ?_) (a' := ?_) #[Y_,Y_,Y_,Y_,Y_,Y_,N_,Y_,N_,N_,N_,N_] rfl rfl (take_ofW HT_.out HW_.out (by kernel_rfl)) (fun _ _ _ h => h) (Or.inl ⟨by rfl, ?_⟩) hHeld ?_ ?_
                            rotate_left; · rintro w' ⟨s0, s1, s2, s3, s4, s5, s6, s7, s8, s9, s10, s11, s12, s13, s14, s15, s16, s17, s18, s19⟩; go_simp; with_reducible rfl
                            rotate_left; · simp only [Act.put, u1_, u2_, u3_, i64_w, i32_w]; rfl
                            refine take_ (i := 6) (N := some 75) (v := ?_) (a' := ?_) #[Y_,Y_,Y_,Y_,Y_,Y_,Y_,Y_,N_,N_,N_,N_] rfl rfl (take_ofW HT_.out HW_.out (by kernel_rfl)) (fun _ _ _ h => h) (Or.inl ⟨by rfl, ?_⟩) hHeld ?_ ?_
                            rotate_left; · rintro w' ⟨s0, s1, s2, s3, s4, s5, s6, s7, s8, s9, s10, s11, s12, s13, s14, s15, s16, s17, s18, s19⟩; go_simp; with_reducible rfl
                            rotate_left; · simp only [Act.put, u1_, u2_, u3_, i64_w, i32_w]; rfl
                            refine pure_ (i := 8) (N := some 77) (v := ?_) (a' := ?_) #[Y_,Y_,Y_,Y_,Y_,Y_,Y_,Y_,Y_,N_,N_,N_] rfl rfl (any_of HT_.out (by kernel_rfl)) (fun _ _ _ h => h) (Or.inl ⟨by rfl, ?_⟩) ?_ ?_
                            rotate_left; · intro w'; go_simp; with_reducible rfl
                            rotate_left; · simp only [Act.put, u1_, u2_, u3_, i64_w, i32_w]; rfl
                            refine take_ (i := 9) (N := some 78) (v := ?_) (a' := ?_) #[Y_,Y_,Y_,Y_,Y_,Y_,Y_,Y_,Y_,Y_,N_,N_] rfl rfl (take_ofW HT_.out HW_.out (by kernel_rfl)) (fun _ _ _ h => h) (Or.inl ⟨by rfl, ?_⟩) hHeld ?_ ?_
                            rotate_left; · rintro w' ⟨s0, s1, s2, s3, s4, s5, s6, s7, s8, s9, s10, s11, s12, s13, s14, s15, s16, s17, s18, s19⟩; go_simp; with_reducible rfl
                            rotate_left; · simp only [Act.put, u1_, u2_, u3_, i64_w, i32_w]; rfl
                            refine one_ (i := 10) (N := some 79) #[Y_,Y_,Y_,Y_,Y_,Y_,Y_,Y_,Y_,Y_,Y_,N_] rfl rfl (one_of HT_.out (by kernel_rfl)) (by decide) (fun K hK => ?_)
                            refine goes_ Tryz.func17 (by kernel_rfl) rfl #[.agg #[.bool ((rd_T42 l0_4 x66_3).f0), .bool ((rd_T42 l0_4 x66_3).f1), .slice A256_2 ((rd_T42 l0_4 x66_3).f2).length c256_2, .slice A256_3 ((rd_T42 l0_4 x66_3).f3).length c256_3, .slice A256_4 ((rd_T42 l0_4 x66_3).f4).length c256_4], .agg #[.bool ((rd_T42 l1_4 x66_3).f0), .bool ((rd_T42 l1_4 x66_3).f1), .slice A257_2 ((rd_T42 l1_4 x66_3).f2).length c257_2, .slice A257_3 ((rd_T42 l1_4 x66_3).f3).length c257_3, .slice A257_4 ((rd_T42 l1_4 x66_3).f4).length c257_4]] (by rfl) rfl rfl (by (try simp only [List.map_toArray, List.map_cons, List.map_nil]); first | done | rfl | (simp only [List.length_drop, List.length_take]; rfl)) ?_
                            with_reducible refine (ih k3 (by have := HJ2.out; have := HK2.out; have := HK3.out; omega) ((rd_T42 l0_4 x66_3).f0) ((rd_T42 l0_4 x66_3).f1) _ _ ((rd_T42 l0_4 x66_3).f2) _ _ ((rd_T42 l0_4 x66_3).f3) _ _ ((rd_T42 l0_4 x66_3).f4) ((rd_T42 l1_4 x66_3).f0) ((rd_T42 l1_4 x66_3).f1) _ _ ((rd_T42 l1_4 x66_3).f2) _ _ ((rd_T42 l1_4 x66_3).f3) _ _ ((rd_T42 l1_4 x66_3).f4) false _ ?side1 ?side2 ?side3 ?side4 ?side5 ?side6 ?side7 ?side8 ?side9 ?side10 ?side11 ?side12 A42.out).mono ?_
                            (case side1 => repeat (first | exact (Kd.C_below HR256_2.out HB.out) | (with_reducible refine Kd.C_alloc ?_ _) | (with_reducible refine Kd.C_drewN ?_ _) | (with_reducible refine Kd.C_drew ?_)))
                            (case side2 => exact HC256_2.out)
                            (case side3 => repeat (first | exact (Kd.C_below HR256_3.out HB.out) | (with_reducible refine Kd.C_alloc ?_ _) | (with_reducible refine Kd.C_drewN ?_ _) | (with_reducible refine Kd.C_drew ?_)))
                            (case side4 => exact HC256_3.out)
                            (case side5 => repeat (first | exact (Kd.C_below HR256_4.out HB.out) | (with_reducible refine Kd.C_alloc ?_ _) | (with_reducible refine Kd.C_drewN ?_ _) | (with_reducible refine Kd.C_drew ?_)))
                            (case side6 => exact HC256_4.out)
                            (case side7 => repeat (first | exact (Kd.C_below HR257_2.out HB.out) | (with_reducible refine Kd.C_alloc ?_ _) | (with_reducible refine Kd.C_drewN ?_ _) | (with_reducible refine Kd.C_drew ?_)))
                            (case side8 => exact HC257_2.out)
                            (case side9 => repeat (first | exact (Kd.C_below HR257_3.out HB.out) | (with_reducible refine Kd.C_alloc ?_ _) | (with_reducible refine Kd.C_drewN ?_ _) | (with_reducible refine Kd.C_drew ?_)))
                            (case side10 => exact HC257_3.out)
                            (case side11 => repeat (first | exact (Kd.C_below HR257_4.out HB.out) | (with_reducible refine Kd.C_alloc ?_ _) | (with_reducible refine Kd.C_drewN ?_ _) | (with_reducible refine Kd.C_drew ?_)))
                            (case side12 => exact HC257_4.out)
                            rintro e w47 ⟨rfl, hb⟩
                            refine ⟨_, rfl, ?_⟩
                            have n0_ := Aside0.mk (blk_below (g := gb251) (o := .cells #[.bool a0_0, .bool a0_1, .slice A0_2 l0_2.length c0_2, .slice A0_3 l0_3.length c0_3, .slice (some ad256) l0_4.length c0_4] 42 (0, 0)) (by (with_reducible repeat (first | refine blk_drewN ?_ _ | refine blk_drew ?_ | refine blk_alloc ?_ _)); exact BK251.out) hb)
                            have n1_ := Aside0.mk (blk_below (g := gb252) (o := .cells #[.bool a1_0, .bool a1_1, .slice A1_2 l1_2.length c1_2, .slice A1_3 l1_3.length c1_3, .slice (some ad257) l1_4.length c1_4] 42 (0, 0)) (by (with_reducible repeat (first | refine blk_drewN ?_ _ | refine blk_drew ?_ | refine blk_alloc ?_ _)); exact BK252.out) hb)
                            have n2_ := Aside0.mk (below_step (by repeat (first | (with_reducible first | exact HB.out | apply below_alloc | apply pw_below_drewN | apply below_drew1 | refine below_set ?_ GE251.out | refine below_set ?_ GE252.out) | exact HB.out)) hb)
                            clear BK251
                            clear BK252
                            clear HB
                            have BK251 := n0_
                            have BK252 := n1_
                            have HB := n2_
                            clear n0_ n1_ n2_
                            (try clear hb)
                            (try clear hb2)
                            (try clear hk)
                            (try clear hi)
                            refine hK.out _ _ ⟨(blk_cell BK251.out 0).trans rfl, (blk_cell BK251.out 1).trans rfl, (blk_cell BK251.out 2).trans rfl, (blk_cell BK251.out 3).trans rfl, (blk_cell BK251.out 4).trans rfl, (blk_cell BK252.out 0).trans rfl, (blk_cell BK252.out 1).trans rfl, (blk_cell BK252.out 2).trans rfl, (blk_cell BK252.out 3).trans rfl, (blk_cell BK252.out 4).trans rfl, ((HB.out.cell (World.block_lt_of_cell? w _ hw256_0)).trans hw256_0), ((HB.out.cell (World.block_lt_of_cell? w _ hw256_1)).trans hw256_1), ((HB.out.cell (World.block_lt_of_cell? w _ hw256_2)).trans hw256_2), ((HB.out.cell (World.block_lt_of_cell? w _ hw256_3)).trans hw256_3), ((HB.out.cell (World.block_lt_of_cell? w _ hw256_4)).trans hw256_4), ((HB.out.cell (World.block_lt_of_cell? w _ hw257_0)).trans hw257_0), ((HB.out.cell (World.block_lt_of_cell? w _ hw257_1)).trans hw257_1), ((HB.out.cell (World.block_lt_of_cell? w _ hw257_2)).trans hw257_2), ((HB.out.cell (World.block_lt_of_cell? w _ hw257_3)).trans hw257_3), ((HB.out.cell (World.block_lt_of_cell? w _ hw257_4)).trans hw257_4)⟩ (fun hHeld => ?_)
                            clear hK K
                            refine norm_ (a' := ?_) ?_ ?_
                            rotate_left; · show Act.put _ (some 79) _ = _; simp only [Act.put, u1_, u2_, u3_, i64_w, i32_w]; rfl
                            refine pure_ (i := 11) (N := some 80) (v := ?_) (a' := ?_) #[Y_,Y_,Y_,Y_,Y_,Y_,Y_,Y_,Y_,Y_,Y_,Y_] rfl rfl (any_of HT_.out (by kernel_rfl)) (fun _ _ _ h => h) (Or.inl ⟨by rfl, ?_⟩) ?_ ?_
                            rotate_left; · intro w'; go_simp; with_reducible rfl
                            rotate_left; · simp only [Act.put, u1_, u2_, u3_, i64_w, i32_w]; rfl
                            refine done_ (done_of HT_.out (by kernel_rfl)) ?_
                            try go_wp2
                            go_ret
                            exact ⟨by first | rfl | (simp [errW_none, errW_some] <;> rfl) | (simp [*, errW_none, errW_some] <;> rfl), by repeat (first | (with_reducible first | exact HB.out | apply below_alloc | apply pw_below_drewN | apply below_drew1 | refine below_set ?_ GE251.out | refine below_set ?_ GE252.out) | exact HB.out)⟩
                        · rw [if_neg c41] at H
                          exact absurd H (by simp)
                      · rw [if_neg c40] at H
                        exact absurd H (by simp)
                    · rw [if_neg c39] at H
                      exact absurd H (by simp)
                  · rw [if_neg c38] at H
                    have c38b0 : decide (x66_3 < (l0_4.length : Int)) = false := decide_eq_false c38
                    clear c38
                    obtain rfl := Option.some.inj H
                    go_wp2
                    go_ret
                    exact ⟨by first | rfl | (simp [errW_none, errW_some] <;> rfl) | (simp [*, errW_none, errW_some] <;> rfl), by repeat (first | (with_reducible first | exact HB.out | apply below_alloc | apply pw_below_drewN | apply below_drew1 | refine below_set ?_ GE251.out | refine below_set ?_ GE252.out) | exact HB.out)⟩
end Go.Proofs.YthlmgbdknjilpaaGreat.PAskKinds
namespace Go.Proofs.YthlmgbdknjilpaaGreat.Tower
open Go Go.RowKit Go.Proofs.YthlmgbdknjilpaaGreatW.PrintWords Go.Proofs.YthlmgbdknjilpaaGreatW.PrintLast Go.Proofs.YthlmgbdknjilpaaGreatW.PrintMore Go.Proofs.YthlmgbdknjilpaaGreat.Own Go.Proofs.YthlmgbdknjilpaaGreat.PAskKinds
set_option linter.unusedVariables false
set_option linter.unusedSimpArgs false
mutual
def manyT : Sh → Nat
  | ⟨_, _, _, _, kids⟩ => 1 + manyL kids
def manyL : List Sh → Nat
  | [] => 0
  | k :: r => manyT k + manyL r
end
mutual
def deepT : Sh → Nat
  | ⟨_, _, _, _, kids⟩ => deepL kids
def deepL : List Sh → Nat
  | [] => 0
  | k :: r => max (deepT k + 1) (deepL r)
end
mutual
def slimT : Sh → Prop
  | ⟨_, _, ps, ks, kids⟩ => ps.length ≤ 60 ∧ ks.length ≤ 60 ∧ kids.length ≤ 60 ∧ slimL kids
def slimL : List Sh → Prop
  | [] => True
  | k :: r => slimT k ∧ slimL r
end
theorem manyT_eq (s : Sh) : manyT s = 1 + manyL s.f4 := by cases s; rw [manyT]
theorem deepT_eq (s : Sh) : deepT s = deepL s.f4 := by cases s; rw [deepT]
theorem slimT_eq (s : Sh) : slimT s ↔ s.f2.length ≤ 60 ∧ s.f3.length ≤ 60 ∧ s.f4.length ≤ 60 ∧ slimL s.f4 := by cases s; rw [slimT]
theorem manyL_append : ∀ a b : List Sh, manyL (a ++ b) = manyL a + manyL b
  | [], b => by simp [manyL]
  | k :: r, b => by rw [List.cons_append, manyL, manyL, manyL_append r b]; omega
theorem deepL_append : ∀ a b : List Sh, deepL (a ++ b) = max (deepL a) (deepL b)
  | [], b => by simp [deepL]
  | k :: r, b => by rw [List.cons_append, deepL, deepL, deepL_append r b]; omega
theorem slimL_append : ∀ a b : List Sh, slimL (a ++ b) ↔ slimL a ∧ slimL b
  | [], b => by simp [slimL]
  | k :: r, b => by rw [List.cons_append, slimL, slimL, slimL_append r b, and_assoc]
theorem seg_split {α : Type} (row : List α) (i n : Nat) : row.drop i = (row.take (i + n)).drop i ++ row.drop (i + n) := by
  rw [List.drop_take, Nat.add_sub_cancel_left, ← List.drop_drop, List.take_append_drop]
theorem upRow_many (row : List Sh) (fs : List Int) : ∀ (ns : List Nat) (i : Nat), i + ns.sum = row.length → manyL (upRow row fs i ns) = ns.length + manyL (row.drop i)
  | [], i, h => by
    rw [List.sum_nil, Nat.add_zero] at h
    rw [upRow, List.drop_of_length_le (by omega)]
    rfl
  | n :: ns, i, h => by
    rw [List.sum_cons] at h
    rw [upRow, manyL, upRow_many row fs ns (i + n) (by omega), manyT_eq, seg_split row i n, manyL_append, List.length_cons]
    show 1 + manyL ((row.take (i + n)).drop i) + (ns.length + manyL (row.drop (i + n))) = _
    omega
theorem upRow_deep (row : List Sh) (fs : List Int) : ∀ (ns : List Nat) (i : Nat), deepL (upRow row fs i ns) ≤ deepL (row.drop i) + 1
  | [], i => by rw [upRow]; exact Nat.zero_le _
  | n :: ns, i => by
    have h := upRow_deep row fs ns (i + n)
    rw [upRow, deepL, deepT_eq, seg_split row i n, deepL_append]
    show max (deepL ((row.take (i + n)).drop i) + 1) _ ≤ _
    omega
theorem upRow_slim (row : List Sh) (fs : List Int) : ∀ (ns : List Nat) (i : Nat), (∀ n ∈ ns, n ≤ 60) → slimL (row.drop i) → slimL (upRow row fs i ns)
  | [], i, _, _ => by rw [upRow]; trivial
  | n :: ns, i, hn, h => by
    rw [seg_split row i n, slimL_append] at h
    have h1 := hn n List.mem_cons_self
    rw [upRow, slimL, slimT_eq]
    refine ⟨⟨by show (0 : Nat) ≤ 60; omega, ?_, ?_, h.1⟩, upRow_slim row fs ns (i + n) (fun x hx => hn x (List.mem_cons_of_mem _ hx)) h.2⟩
    · show ((fs.take (i + n)).drop (i + 1)).length ≤ 60
      rw [List.length_drop, List.length_take]
      omega
    · show ((row.take (i + n)).drop i).length ≤ 60
      rw [List.length_drop, List.length_take]
      omega
theorem head_le (row : List Sh) (h : row ≠ []) : manyT (row.headD zSh) ≤ manyL row ∧ deepT (row.headD zSh) + 1 ≤ deepL row ∧ (slimL row → slimT (row.headD zSh)) := by
  cases row with
  | nil => exact absurd rfl h
  | cons k r => rw [manyL, deepL, slimL]; exact ⟨by show manyT k ≤ _; omega, by show deepT k + 1 ≤ _; omega, fun h => h.1⟩
theorem evenUp_good (b : Nat) (hb : 3 ≤ b) (hb8 : b ≤ 8) : ∀ (f : Nat) (row : List Sh) (fs : List Int), row ≠ [] → row.length ≤ 60 → slimL row → manyT (evenUp b f row fs) ≤ manyL row + row.length * row.length ∧ deepT (evenUp b f row fs) + 1 ≤ deepL row + row.length ∧ slimT (evenUp b f row fs)
  | 0, row, fs, h0, h1, h2 => by
    obtain ⟨a1, a2, a3⟩ := head_le row h0
    rw [evenUp]
    exact ⟨by omega, by omega, a3 h2⟩
  | f + 1, row, fs, h0, h1, h2 => by
    rw [evenUp]
    by_cases hl : 1 < row.length
    · rw [if_pos hl]
      obtain ⟨p1, p2, p3, p4, _⟩ := parts_good row.length b h1 hb hb8
      generalize partsN row.length b = ns at p1 p2 p3 p4
      have hns : ns ≠ [] := fun e => by subst e; simp at p1; omega
      have hlen := upRow_length row fs ns 0
      have hm := upRow_many row fs ns 0 (by omega)
      have hd := upRow_deep row fs ns 0
      have hsl := upRow_slim row fs ns 0 (fun n hn => by have := (p2 n hn).2; omega) (by rw [List.drop_zero]; exact h2)
      rw [List.drop_zero] at hm hd
      have p5 := p3 hl
      obtain ⟨q1, q2, q3⟩ := evenUp_good b hb hb8 f (upRow row fs 0 ns) (upKey fs 0 ns) (fun e => hns (List.eq_nil_of_length_eq_zero (by rw [← hlen, e]; rfl))) (by omega) hsl
      rw [hlen] at q1 q2
      rw [hm] at q1
      have hsq : ns.length * ns.length + ns.length ≤ row.length * row.length := by
        have := Nat.mul_le_mul (show ns.length ≤ row.length by omega) (show ns.length + 1 ≤ row.length by omega)
        rw [Nat.mul_add, Nat.mul_one] at this
        exact this
      exact ⟨by omega, by omega, q3⟩
    · rw [if_neg hl]
      obtain ⟨a1, a2, a3⟩ := head_le row h0
      exact ⟨by omega, by omega, a3 h2⟩
theorem leafRow_good : ∀ (ns : List Nat) (xs : List Pr2), (∀ n ∈ ns, n ≤ 60) → manyL (leafRow xs ns) = ns.length ∧ deepL (leafRow xs ns) ≤ 1 ∧ slimL (leafRow xs ns)
  | [], xs, _ => ⟨rfl, Nat.zero_le _, trivial⟩
  | n :: ns, xs, hn => by
    obtain ⟨a1, a2, a3⟩ := leafRow_good ns (xs.drop n) (fun x hx => hn x (List.mem_cons_of_mem _ hx))
    have h1 := hn n List.mem_cons_self
    rw [leafRow, manyL, deepL, slimL, manyT_eq, deepT_eq, slimT_eq, a1]
    refine ⟨by simp [manyL]; omega, by simp [deepL]; omega, ⟨?_, by simp, by simp, trivial⟩, a3⟩
    show (xs.take n).length ≤ 60
    rw [List.length_take]
    omega
theorem evenT_good (xs : List Pr2) (b : Nat) (h : xs.length ≤ 30) (hb : 3 ≤ b) (hb8 : b ≤ 8) : manyT (evenT xs b) ≤ 930 ∧ deepT (evenT xs b) ≤ 40 ∧ slimT (evenT xs b) := by
  unfold evenT
  by_cases h0 : xs.length = 0
  · rw [if_pos h0, manyT_eq, deepT_eq, slimT_eq]
    exact ⟨by simp [manyL], by simp [deepL], by simp, by simp, by simp, trivial⟩
  · rw [if_neg h0]
    obtain ⟨p1, p2, p3, p4, _⟩ := parts_good xs.length b (by omega) hb hb8
    generalize partsN xs.length b = ns at p1 p2 p3 p4
    have hns : ns ≠ [] := fun e => by subst e; simp at p1; omega
    obtain ⟨a1, a2, a3⟩ := leafRow_good ns xs (fun n hn => by have := (p2 n hn).2; omega)
    have hlen := leafRow_length ns xs
    obtain ⟨q1, q2, q3⟩ := evenUp_good b hb hb8 60 (leafRow xs ns) (leafKey xs ns) (fun e => hns (List.eq_nil_of_length_eq_zero (by rw [← hlen, e]; rfl))) (by omega) a3
    rw [hlen] at q1 q2
    have hsq := Nat.mul_le_mul (show ns.length ≤ 30 by omega) (show ns.length ≤ 30 by omega)
    exact ⟨by omega, by omega, q3⟩
theorem mono_le {α : Type} {f : Nat → Option α} (hm : ∀ k, LeO (f k) (f (k + 1))) : ∀ {k j : Nat} {r : α}, k ≤ j → f k = some r → f j = some r := by
  intro k j r hkj h
  induction j with
  | zero => rw [show k = 0 by omega] at h; exact h
  | succ j ih =>
    by_cases hk : k ≤ j
    · exact hm j r (ih hk)
    · rw [show j + 1 = k by omega]; exact h
def ManyOk (k : Nat) (s : Sh) : Prop := boscagelaw11_Shape_Many.f k s.f0 s.f1 s.f2 s.f3 s.f4 = some (manyT s : Int)
theorem rd_T_at {l : List Sh} {i : Nat} {k : Sh} (h : l[i]? = some k) : rd_T42 l (i : Int) = k := by
  unfold rd_T42
  simp [List.getD_eq_getElem?_getD, h]
theorem many_loop (l : List Sh) (hl : l.length ≤ 60) (k : Nat) (hk : ∀ s ∈ l, ManyOk k s) : ∀ (n i : Nat) (acc : Nat), i + n = l.length → acc + manyL (l.drop i) < 1000000 → boscagelaw11_Shape_Many.l0 (k + n + 1) (acc : Int) l (l.length : Int) (i : Int) = some ((acc + manyL (l.drop i) : Nat) : Int)
  | 0, i, acc, h, hm => by
    unfold boscagelaw11_Shape_Many.l0
    rw [if_neg (by omega), List.drop_of_length_le (by omega)]
    rfl
  | n + 1, i, acc, h, hm => by
    have hi : i < l.length := by omega
    have hg : l[i]? = some l[i] := List.getElem?_eq_getElem hi
    have hd : l.drop i = l[i] :: l.drop (i + 1) := List.drop_eq_getElem_cons hi
    rw [hd, manyL] at hm ⊢
    have h1 : ManyOk (k + n + 1) l[i] := mono_le (fun j => boscagelaw11_Shape_Many.mono _ _ _ _ _ j) (by omega) (hk _ (List.getElem_mem hi))
    unfold boscagelaw11_Shape_Many.l0
    rw [if_pos (by omega), if_pos (by omega), if_pos (by omega), rd_T_at hg]
    rw [show boscagelaw11_Shape_Many.f (k + (n + 1)) l[i].f0 l[i].f1 l[i].f2 l[i].f3 l[i].f4 = some (manyT l[i] : Int) from h1]
    rw [Option.bind_some, show wrap64 ((acc : Int) + (manyT l[i] : Int)) = ((acc + manyT l[i] : Nat) : Int) from by unfold wrap64; omega, show wrap64 ((i : Int) + 1) = ((i + 1 : Nat) : Int) from by unfold wrap64; omega]
    rw [show k + (n + 1) = k + n + 1 from rfl, many_loop l hl k hk n (i + 1) (acc + manyT l[i]) (by omega) (by omega)]
    rw [Nat.add_assoc]
theorem many_ok : ∀ (d : Nat) (s : Sh), deepT s ≤ d → slimT s → manyT s < 1000000 → ManyOk (62 * (d + 1)) s := by
  intro d
  induction d with
  | zero =>
    intro s hd hs hm
    have hk : s.f4 = [] := by
      rw [deepT_eq] at hd
      cases h : s.f4 with
      | nil => rfl
      | cons k r => rw [h, deepL] at hd; omega
    unfold ManyOk boscagelaw11_Shape_Many.f
    rw [manyT_eq, hk]
    unfold boscagelaw11_Shape_Many.l0
    rfl
  | succ d ih =>
    intro s hd hs hm
    rw [deepT_eq] at hd
    rw [slimT_eq] at hs
    rw [manyT_eq] at hm
    have hall : ∀ (l : List Sh), deepL l ≤ d + 1 → slimL l → manyL l < 1000000 → ∀ q ∈ l, ManyOk (62 * (d + 1)) q := by
      intro l
      induction l with
      | nil => intro _ _ _ q hq; cases hq
      | cons k r ihr =>
        intro h1 h2 h3 q hq
        rw [deepL] at h1
        rw [slimL] at h2
        rw [manyL] at h3
        rcases List.mem_cons.1 hq with rfl | hq
        · exact ih _ (by omega) h2.1 (by omega)
        · exact ihr (by omega) h2.2 (by omega) q hq
    have h1 := many_loop s.f4 hs.2.2.1 (62 * (d + 1)) (hall s.f4 (by omega) hs.2.2.2 (by omega)) s.f4.length 0 1 (by omega) (by rw [List.drop_zero]; omega)
    rw [List.drop_zero] at h1
    have h2 : ManyOk (62 * (d + 1) + s.f4.length + 2) s := by
      unfold ManyOk
      rw [manyT_eq]
      show boscagelaw11_Shape_Many.f (62 * (d + 1) + s.f4.length + 1 + 1) _ _ _ _ _ = _
      unfold boscagelaw11_Shape_Many.f
      exact h1
    exact mono_le (fun j => boscagelaw11_Shape_Many.mono _ _ _ _ _ j) (by have := hs.2.2.1; omega) h2
end Go.Proofs.YthlmgbdknjilpaaGreat.Tower
namespace Go.Proofs.YthlmgbdknjilpaaGreat.PAskKinds
open Go.RowKit Go.Proofs.YthlmgbdknjilpaaGreatW.PrintWords Go.Proofs.YthlmgbdknjilpaaGreatW.PrintLast Go.Proofs.YthlmgbdknjilpaaGreatW.PrintMore
attribute [local go_sem] max2_int min2_int max_two min_two max_three min_three max_four min_four
set_option linter.unusedVariables false
set_option linter.unusedSimpArgs false
def ask_bit.f (a0 : Bool) : Option (Int) := if a0 = true then (some 1) else (some 0)
set_option maxHeartbeats 8000000 in
set_option maxRecDepth 100000 in
theorem ask_bit.calls (a0 : Bool) (r : Int) (w : World) (h : ask_bit.f a0 = some r) :
    Calls Tryz.prog 33 #[.bool a0] w fun e w' => e = .returned (.int .i64 r) ∧ Drawn0 w w' := by
  have H : (if a0 = true then (some 1) else (some 0)) = some r := h
  clear h
  by_cases c2 : a0 = true
  · subst c2
    have H1 : (some 1) = some r := by rw [if_pos rfl] at H; exact H
    clear H
    have H := H1
    clear H1
    obtain rfl := Option.some.inj H
    go_enter Tryz.func33, Tryz.ntmps33
    go_wp2
    go_ret
    exact ⟨by first | rfl | (simp; done) | (simp [*]; done), by repeat (first | exact Drawn0.refl _ | apply Drawn0.step)⟩
  · replace c2 := Bool.eq_false_iff.mpr c2
    subst c2
    have H1 : (some 0) = some r := by rw [if_neg (show ¬ (false = true) by decide)] at H; exact H
    clear H
    have H := H1
    clear H1
    obtain rfl := Option.some.inj H
    go_enter Tryz.func33, Tryz.ntmps33
    go_wp2
    go_ret
    exact ⟨by first | rfl | (simp; done) | (simp [*]; done), by repeat (first | exact Drawn0.refl _ | apply Drawn0.step)⟩
def ask_Code.l0 : Nat → List Int → List (S31) → Int → Int → Option (List Int)
  | 0, _, _, _, _ => none
  | k + 1, x3, x20, x21, x22 => if x22 < x21 then (if 0 ≤ x22 then (if x22 < (x20.length : Int) then ((some (([(rd_T31 x20 x22).f0, (rd_T31 x20 x22).f1] : List Int) : List Int)).bind fun y109 => (if x3.length + y109.length < 17592186044416 then (ask_Code.l0 k (x3 ++ y109) x20 x21 (wrap64 (x22 + 1))) else (none))) else (none)) else (none)) else (some x3)
def ask_Code.f (k : Nat) (a0_0 : Int) (a0_1 : Bool) (a0_2 : Int) (a0_3 : Int) (l0_4 : List (S31)) (a0_5 : Bool) : Option (List Int) := (ask_bit.f a0_1).bind fun t102 => ((ask_bit.f a0_5).bind fun t103 => (ask_Code.l0 k (([a0_0, t102, a0_2, a0_3, t103] : List Int)) l0_4 (l0_4.length : Int) 0))
theorem ask_Code.mono_l : ∀ k, (∀ y0 y1 y2 y3, LeO (ask_Code.l0 k y0 y1 y2 y3) (ask_Code.l0 (k + 1) y0 y1 y2 y3))
  | 0 => fun _ _ _ _ r h => by simp [ask_Code.l0] at h
  | k + 1 => by
    have ih0 := ask_Code.mono_l k
    · intro y0 y1 y2 y3
      unfold ask_Code.l0
      repeat' first
      | (with_reducible exact ih0 _ _ _ _)
      | (with_reducible exact LeO.refl _)
      | (with_reducible exact LeO.none _)
      | (with_reducible refine LeO.ite ?_ ?_)
      | (with_reducible refine LeO.bind ?_ (fun _ => ?_))
      | exact ih0 _ _ _ _
      | exact LeO.none _
      | refine LeO.ite ?_ ?_
      | refine LeO.bind ?_ (fun _ => ?_)
theorem ask_Code.mono : ∀ a0 a1 a2 a3 a4 a5 k, LeO (ask_Code.f k a0 a1 a2 a3 a4 a5) (ask_Code.f (k + 1) a0 a1 a2 a3 a4 a5) := by
  intro a0 a1 a2 a3 a4 a5 k
  have ih0 := ask_Code.mono_l k
  unfold ask_Code.f
  repeat' first
      | (with_reducible exact ih0 _ _ _ _)
      | (with_reducible exact LeO.refl _)
      | (with_reducible exact LeO.none _)
      | (with_reducible refine LeO.ite ?_ ?_)
      | (with_reducible refine LeO.bind ?_ (fun _ => ?_))
      | exact ih0 _ _ _ _
      | exact LeO.none _
      | refine LeO.ite ?_ ?_
      | refine LeO.bind ?_ (fun _ => ?_)
def ask_Code.T1 : Bool × List (List Nat × List Nat) := (true, [([], []), ([0], [0]), ([], []), ([2], [2]), ([3], [3]), ([], []), ([5], [5]), ([], []), ([7], [7]), ([], []), ([9], [9]), ([10, 4], [10]), ([1, 4, 6, 8, 11], [1, 4, 6, 8, 11]), ([12, 11, 0, 1, 2, 3, 4, 5, 6, 7, 8, 9, 10, 11, 12], [12])])
def ask_Code.B1 : List Nat := [0, 1, 0, 4, 12, 0, 32, 0, 128, 0, 512, 1564, 4095, 8191]
theorem ask_Code.tab1 : rtab .any (opsOf Tryz.f10 1) = ask_Code.T1 := by kernel_rfl
theorem ask_Code.bits1 : waitsOk ask_Code.T1.2 ask_Code.B1 = true := by kernel_rfl
set_option maxHeartbeats 8000000 in
set_option maxRecDepth 100000 in
theorem ask_Code.calls (k : Nat) (a0_0 : Int) (a0_1 : Bool) (a0_2 : Int) (a0_3 : Int) (A0_4 : Option Addr) (c0_4 : Nat) (l0_4 : List (S31)) (a0_5 : Bool) (r : List Int) (w : World) (hr0_4 : Kd.C k31 w A0_4 l0_4.length l0_4) (hc0_4 : l0_4.length ≤ c0_4) (h : ask_Code.f k a0_0 a0_1 a0_2 a0_3 l0_4 a0_5 = some r) :
    Calls Tryz.prog 10 #[.agg #[.int .i64 a0_0, .bool a0_1, .int .i64 a0_2, .int .i64 a0_3, .slice A0_4 l0_4.length c0_4, .bool a0_5]] w fun e w' => ∃ v0_ : Value, e = .returned (v0_) ∧ Kd.R (Kd.int .i64) 2 w' w.heap.size (fun _ => True) v0_ r ∧ Below w.heap.size w w' := by
  have hu26 := Tryz.underlying26
  have hu31 := Tryz.underlying31
  have HR0_4 := Aside0.mk hr0_4
  have HC0_4 := Aside0.mk hc0_4
  clear hr0_4 hc0_4
  have HB := Aside0.mk (Below.refl w.heap.size w)
  have H : ((ask_bit.f a0_1).bind fun t102 => ((ask_bit.f a0_5).bind fun t103 => (ask_Code.l0 k (([a0_0, t102, a0_2, a0_3, t103] : List Int)) l0_4 (l0_4.length : Int) 0))) = some r := h
  clear h
  replace H := Option.bind_eq_some_iff.mp H
  obtain ⟨t102, A20, H⟩ := H
  replace H : ((ask_bit.f a0_5).bind fun t103 => (ask_Code.l0 k (([a0_0, t102, a0_2, a0_3, t103] : List Int)) l0_4 (l0_4.length : Int) 0)) = some r := H
  have A2 := Aside0.mk A20
  clear A20
  replace H := Option.bind_eq_some_iff.mp H
  obtain ⟨t103, A30, H⟩ := H
  replace H : (ask_Code.l0 k (([a0_0, t102, a0_2, a0_3, t103] : List Int)) l0_4 (l0_4.length : Int) 0) = some r := H
  have A3 := Aside0.mk A30
  clear A30
  obtain ⟨y104, hy104⟩ : ∃ y_ : List Int, y_ = (([a0_0, t102, a0_2, a0_3, t103] : List Int)) := ⟨_, rfl⟩
  replace H : (ask_Code.l0 k y104 l0_4 (l0_4.length : Int) 0) = some r := by first | (rw [hy104]; with_reducible exact H) | (have H2_ := (Option.bind_some _ _).symm.trans H; rw [hy104]; with_reducible exact H2_) | (have H2_ := (Option.bind_some _ _).symm.trans H; with_reducible exact H2_) | with_reducible exact H | (rw [hy104]; exact H) | exact H
  have Ny104 := Aside0.mk hy104
  clear hy104
  have H' := Aside0.mk H
  clear H
  go_enter Tryz.func10, Tryz.ntmps10
  try go_wp2_with (first | ((with_reducible refine gate_dst (N := 1) rfl ?_); refine box_event ?hg (N := 1) ?hd (cs := #[.int .i64 a0_0, .bool a0_1, .int .i64 a0_2, .int .i64 a0_3, .slice A0_4 l0_4.length c0_4, .bool a0_5]) (t := 26) ?hr ?_; (case hd => rfl); (case hg => rfl); (case hr => first | (go_simp; done) | (go_simp; rfl)); intro gb101 hg w4 hbox hb; have n0_ := Aside0.mk (below_step (by repeat (first | (with_reducible first | exact HB.out | apply below_alloc | apply pw_below_drewN | apply below_drew1) | exact HB.out)) hb); have n1_ := Aside0.mk (hbox); have n2_ := Aside0.mk ((by rw [hg]; exact (below_size (by repeat (first | (with_reducible first | exact HB.out | apply below_alloc | apply pw_below_drewN | apply below_drew1) | exact HB.out))) : w.heap.size ≤ gb101)); have n3_ := Aside0.mk ((by rw [hg]; exact (below_size (by repeat (first | (with_reducible first | exact HB.out | apply below_alloc | apply pw_below_drewN | apply below_drew1) | exact HB.out))) : w.heap.size ≤ gb101)); clear HB; have HB := n0_; have BK101 := n1_; have GW101 := n2_; have GE101 := n3_; clear n0_ n1_ n2_ n3_; clear hb hbox hg))
  have n0_ := Aside0.mk (blk_drew BK101.out)
  have n1_ := Aside0.mk (below_drew1 HB.out)
  clear BK101
  clear HB
  have BK101 := n0_
  have HB := n1_
  clear n0_ n1_
  refine start_ (n := 14) (S := fun w' => w'.cell? ⟨gb101, 0, none⟩ = some (.int .i64 a0_0) ∧ w'.cell? ⟨gb101, 1, none⟩ = some (.bool a0_1) ∧ w'.cell? ⟨gb101, 2, none⟩ = some (.int .i64 a0_2) ∧ w'.cell? ⟨gb101, 3, none⟩ = some (.int .i64 a0_3) ∧ w'.cell? ⟨gb101, 4, none⟩ = some (.slice A0_4 l0_4.length c0_4) ∧ w'.cell? ⟨gb101, 5, none⟩ = some (.bool a0_5)) (ds := []) #[N_,N_,N_,N_,N_,N_,N_,N_,N_,N_,N_,N_,N_,N_] (by kernel_rfl) rfl rfl ⟨(blk_cell BK101.out 0).trans rfl, (blk_cell BK101.out 1).trans rfl, (blk_cell BK101.out 2).trans rfl, (blk_cell BK101.out 3).trans rfl, (blk_cell BK101.out 4).trans rfl, (blk_cell BK101.out 5).trans rfl⟩ (fun hHeld => ?_); refine with_tabW ask_Code.tab1 ask_Code.bits1 (fun HT_ HW_ => ?_)
  generalize w4.drew = w5 at BK101 HB hHeld ⊢
  refine pure_ (i := 0) (N := some 6) (v := ?_) (a' := ?_) #[Y_,N_,N_,N_,N_,N_,N_,N_,N_,N_,N_,N_,N_,N_] rfl rfl (any_of HT_.out (by kernel_rfl)) (fun _ _ _ h => h) (Or.inl ⟨by rfl, ?_⟩) ?_ ?_
  rotate_left; · intro w'; go_simp; with_reducible rfl
  rotate_left; · simp only [Act.put, u1_, u2_, u3_, i64_w, i32_w]; rfl
  refine pure_ (i := 2) (N := some 8) (v := ?_) (a' := ?_) #[Y_,N_,Y_,N_,N_,N_,N_,N_,N_,N_,N_,N_,N_,N_] rfl rfl (any_of HT_.out (by kernel_rfl)) (fun _ _ _ h => h) (Or.inl ⟨by rfl, ?_⟩) ?_ ?_
  rotate_left; · intro w'; go_simp; with_reducible rfl
  rotate_left; · simp only [Act.put, u1_, u2_, u3_, i64_w, i32_w]; rfl
  refine pure_ (i := 5) (N := some 11) (v := ?_) (a' := ?_) #[Y_,N_,Y_,N_,N_,Y_,N_,N_,N_,N_,N_,N_,N_,N_] rfl rfl (any_of HT_.out (by kernel_rfl)) (fun _ _ _ h => h) (Or.inl ⟨by rfl, ?_⟩) ?_ ?_
  rotate_left; · intro w'; go_simp; with_reducible rfl
  rotate_left; · simp only [Act.put, u1_, u2_, u3_, i64_w, i32_w]; rfl
  refine pure_ (i := 7) (N := some 13) (v := ?_) (a' := ?_) #[Y_,N_,Y_,N_,N_,Y_,N_,Y_,N_,N_,N_,N_,N_,N_] rfl rfl (any_of HT_.out (by kernel_rfl)) (fun _ _ _ h => h) (Or.inl ⟨by rfl, ?_⟩) ?_ ?_
  rotate_left; · intro w'; go_simp; with_reducible rfl
  rotate_left; · simp only [Act.put, u1_, u2_, u3_, i64_w, i32_w]; rfl
  refine pure_ (i := 9) (N := some 15) (v := ?_) (a' := ?_) #[Y_,N_,Y_,N_,N_,Y_,N_,Y_,N_,Y_,N_,N_,N_,N_] rfl rfl (any_of HT_.out (by kernel_rfl)) (fun _ _ _ h => h) (Or.inl ⟨by rfl, ?_⟩) ?_ ?_
  rotate_left; · intro w'; go_simp; with_reducible rfl
  rotate_left; · simp only [Act.put, u1_, u2_, u3_, i64_w, i32_w]; rfl
  refine take_ (i := 1) (N := some 7) (v := ?_) (a' := ?_) #[Y_,Y_,Y_,N_,N_,Y_,N_,Y_,N_,Y_,N_,N_,N_,N_] rfl rfl (take_ofW HT_.out HW_.out (by kernel_rfl)) (fun _ _ _ h => h) (Or.inl ⟨by rfl, ?_⟩) hHeld ?_ ?_
  rotate_left; · rintro w' ⟨s0, s1, s2, s3, s4, s5⟩; go_simp; with_reducible rfl
  rotate_left; · simp only [Act.put, u1_, u2_, u3_, i64_w, i32_w]; rfl
  refine take_ (i := 3) (N := some 9) (v := ?_) (a' := ?_) #[Y_,Y_,Y_,Y_,N_,Y_,N_,Y_,N_,Y_,N_,N_,N_,N_] rfl rfl (take_ofW HT_.out HW_.out (by kernel_rfl)) (fun _ _ _ h => h) (Or.inl ⟨by rfl, ?_⟩) hHeld ?_ ?_
  rotate_left; · rintro w' ⟨s0, s1, s2, s3, s4, s5⟩; go_simp; with_reducible rfl
  rotate_left; · simp only [Act.put, u1_, u2_, u3_, i64_w, i32_w]; rfl
  refine take_ (i := 6) (N := some 12) (v := ?_) (a' := ?_) #[Y_,Y_,Y_,Y_,N_,Y_,Y_,Y_,N_,Y_,N_,N_,N_,N_] rfl rfl (take_ofW HT_.out HW_.out (by kernel_rfl)) (fun _ _ _ h => h) (Or.inl ⟨by rfl, ?_⟩) hHeld ?_ ?_
  rotate_left; · rintro w' ⟨s0, s1, s2, s3, s4, s5⟩; go_simp; with_reducible rfl
  rotate_left; · simp only [Act.put, u1_, u2_, u3_, i64_w, i32_w]; rfl
  refine take_ (i := 8) (N := some 14) (v := ?_) (a' := ?_) #[Y_,Y_,Y_,Y_,N_,Y_,Y_,Y_,Y_,Y_,N_,N_,N_,N_] rfl rfl (take_ofW HT_.out HW_.out (by kernel_rfl)) (fun _ _ _ h => h) (Or.inl ⟨by rfl, ?_⟩) hHeld ?_ ?_
  rotate_left; · rintro w' ⟨s0, s1, s2, s3, s4, s5⟩; go_simp; with_reducible rfl
  rotate_left; · simp only [Act.put, u1_, u2_, u3_, i64_w, i32_w]; rfl
  refine take_ (i := 10) (N := some 16) (v := ?_) (a' := ?_) #[Y_,Y_,Y_,Y_,N_,Y_,Y_,Y_,Y_,Y_,Y_,N_,N_,N_] rfl rfl (take_ofW HT_.out HW_.out (by kernel_rfl)) (fun _ _ _ h => h) (Or.inl ⟨by rfl, ?_⟩) hHeld ?_ ?_
  rotate_left; · rintro w' ⟨s0, s1, s2, s3, s4, s5⟩; go_simp; with_reducible rfl
  rotate_left; · simp only [Act.put, u1_, u2_, u3_, i64_w, i32_w]; rfl
  refine one_ (i := 4) (N := some 10) #[Y_,Y_,Y_,Y_,Y_,Y_,Y_,Y_,Y_,Y_,Y_,N_,N_,N_] rfl rfl (one_of HT_.out (by kernel_rfl)) (by decide) (fun K hK => ?_)
  refine goes_ Tryz.func33 (by kernel_rfl) rfl #[.bool a0_1] (by rfl) rfl rfl (by (try simp only [List.map_toArray, List.map_cons, List.map_nil]); first | done | rfl | (simp only [List.length_drop, List.length_take]; rfl)) ?_
  with_reducible refine (ask_bit.calls a0_1 t102 _ A2.out).mono ?_
  rintro e w' ⟨rfl, ⟨nd, rfl⟩⟩
  refine ⟨_, rfl, ?_⟩
  refine hK.out _ _ ⟨(blk_cell BK101.out 0).trans rfl, (blk_cell BK101.out 1).trans rfl, (blk_cell BK101.out 2).trans rfl, (blk_cell BK101.out 3).trans rfl, (blk_cell BK101.out 4).trans rfl, (blk_cell BK101.out 5).trans rfl⟩ (fun hHeld => ?_)
  clear hK K
  refine norm_ (a' := ?_) ?_ ?_
  rotate_left; · show Act.put _ (some 10) _ = _; simp only [Act.put, u1_, u2_, u3_, i64_w, i32_w]; rfl
  refine one_ (i := 11) (N := some 17) #[Y_,Y_,Y_,Y_,Y_,Y_,Y_,Y_,Y_,Y_,Y_,Y_,N_,N_] rfl rfl (one_of HT_.out (by kernel_rfl)) (by decide) (fun K hK => ?_)
  refine goes_ Tryz.func33 (by kernel_rfl) rfl #[.bool a0_5] (by rfl) rfl rfl (by (try simp only [List.map_toArray, List.map_cons, List.map_nil]); first | done | rfl | (simp only [List.length_drop, List.length_take]; rfl)) ?_
  with_reducible refine (ask_bit.calls a0_5 t103 _ A3.out).mono ?_
  rintro e w' ⟨rfl, ⟨nd, rfl⟩⟩
  refine ⟨_, rfl, ?_⟩
  refine hK.out _ _ ⟨(blk_cell BK101.out 0).trans rfl, (blk_cell BK101.out 1).trans rfl, (blk_cell BK101.out 2).trans rfl, (blk_cell BK101.out 3).trans rfl, (blk_cell BK101.out 4).trans rfl, (blk_cell BK101.out 5).trans rfl⟩ (fun hHeld => ?_)
  clear hK K
  refine norm_ (a' := ?_) ?_ ?_
  rotate_left; · show Act.put _ (some 17) _ = _; simp only [Act.put, u1_, u2_, u3_, i64_w, i32_w]; rfl
  refine one_ (i := 12) (N := some 18) #[Y_,Y_,Y_,Y_,Y_,Y_,Y_,Y_,Y_,Y_,Y_,Y_,Y_,N_] rfl rfl (one_of HT_.out (by kernel_rfl)) (by decide) (fun K hK => ?_)
  refine Kd.R_lit_step (Kd.int .i64) _ 2 ?hg (N := 18) ?hd (xs := ([a0_0, t102, a0_2, a0_3, t103] : List Int)) (inner := [.int .i64 a0_0, .int .i64 t102, .int .i64 a0_2, .int .i64 a0_3, .int .i64 t103]) (ok := fun _ => True) (okp := fun _ => True) ?hr ?hp (fun _ hk => hk) trivial (Below.refl _ _) (Nat.le_refl _) (by simp) ?_; (case hd => rfl); (case hg => rfl); (case hr => first | (go_simp; done) | (go_simp; rfl)); (case hp => exact (Reps.one (show Kd.M (Kd.int .i64) _ _ _ a0_0 [.int .i64 a0_0] from rfl) (Reps.one (show Kd.M (Kd.int .i64) _ _ _ t102 [.int .i64 t102] from rfl) (Reps.one (show Kd.M (Kd.int .i64) _ _ _ a0_2 [.int .i64 a0_2] from rfl) (Reps.one (show Kd.M (Kd.int .i64) _ _ _ a0_3 [.int .i64 a0_3] from rfl) (Reps.one (show Kd.M (Kd.int .i64) _ _ _ t103 [.int .i64 t103] from rfl) (Reps.none _ _)))))))
  intro v105 w6 ho7 hb hg_ hnew_
  clear hg_ hnew_
  (first | rw [← Ny104.out] at ho7 | (simp only [Int.reduceToNat] at ho7; rw [← Ny104.out] at ho7))
  have n0_ := Aside0.mk (Kd.R_lower ho7 (below_size (by repeat (first | (with_reducible first | exact HB.out | apply below_alloc | apply pw_below_drewN | apply below_drew1 | refine below_set ?_ GE101.out) | exact HB.out))))
  have n1_ := Aside0.mk (blk_below (g := gb101) (o := .cells #[.int .i64 a0_0, .bool a0_1, .int .i64 a0_2, .int .i64 a0_3, .slice A0_4 l0_4.length c0_4, .bool a0_5] 26 (0, 0)) (by (with_reducible repeat (first | refine blk_drewN ?_ _ | refine blk_drew ?_ | refine blk_alloc ?_ _)); exact BK101.out) hb)
  have n2_ := Aside0.mk (below_step (by repeat (first | (with_reducible first | exact HB.out | apply below_alloc | apply pw_below_drewN | apply below_drew1 | refine below_set ?_ GE101.out) | exact HB.out)) hb)
  clear BK101
  clear HB
  have HO106 := n0_
  have BK101 := n1_
  have HB := n2_
  clear n0_ n1_ n2_
  clear hb ho7
  refine hK.out _ _ ⟨(blk_cell BK101.out 0).trans rfl, (blk_cell BK101.out 1).trans rfl, (blk_cell BK101.out 2).trans rfl, (blk_cell BK101.out 3).trans rfl, (blk_cell BK101.out 4).trans rfl, (blk_cell BK101.out 5).trans rfl⟩ (fun hHeld => ?_)
  clear hK K
  refine norm_ (a' := ?_) ?_ ?_
  rotate_left; · show Act.put _ (some 18) _ = _; simp only [Act.put, u1_, u2_, u3_, i64_w, i32_w]; rfl
  refine pure_ (i := 13) (N := some 3) (v := ?_) (a' := ?_) #[Y_,Y_,Y_,Y_,Y_,Y_,Y_,Y_,Y_,Y_,Y_,Y_,Y_,Y_] rfl rfl (any_of HT_.out (by kernel_rfl)) (fun _ _ _ h => h) (Or.inl ⟨by rfl, ?_⟩) ?_ ?_
  rotate_left; · intro w'; go_simp; with_reducible rfl
  rotate_left; · simp only [Act.put, u1_, u2_, u3_, i64_w, i32_w]; rfl
  refine done_ (done_of HT_.out (by kernel_rfl)) ?_
  have hcz8_0 : w6.cell? ⟨gb101, 0, none⟩ = some (.int .i64 a0_0) := (blk_cell BK101.out 0).trans rfl
  have hcz8_1 : w6.cell? ⟨gb101, 1, none⟩ = some (.bool a0_1) := (blk_cell BK101.out 1).trans rfl
  have hcz8_2 : w6.cell? ⟨gb101, 2, none⟩ = some (.int .i64 a0_2) := (blk_cell BK101.out 2).trans rfl
  have hcz8_3 : w6.cell? ⟨gb101, 3, none⟩ = some (.int .i64 a0_3) := (blk_cell BK101.out 3).trans rfl
  have hcz8_4 : w6.cell? ⟨gb101, 4, none⟩ = some (.slice A0_4 l0_4.length c0_4) := (blk_cell BK101.out 4).trans rfl
  have hcz8_5 : w6.cell? ⟨gb101, 5, none⟩ = some (.bool a0_5) := (blk_cell BK101.out 5).trans rfl
  have hfz8_0 := blk_frozen BK101.out 0
  have hfz8_1 := blk_frozen BK101.out 1
  have hfz8_2 := blk_frozen BK101.out 2
  have hfz8_3 := blk_frozen BK101.out 3
  have hfz8_4 := blk_frozen BK101.out 4
  have hfz8_5 := blk_frozen BK101.out 5
  try go_wp2
  go_loopg [3, 22] k (fun kq v3 v22 w' => ∃ (x3_1 : List Int) (x22_1 : Int), v22 = .int .i64 x22_1 ∧ Aside0 (ask_Code.l0 kq x3_1 l0_4 (l0_4.length : Int) x22_1 = some r) ∧ Aside0 (kq ≤ k) ∧ Aside0 (Kd.R (Kd.int .i64) 2 w' w.heap.size (fun _ => True) v3 x3_1) ∧ Aside0 (w'.heap[gb101]? = some (.cells #[.int .i64 a0_0, .bool a0_1, .int .i64 a0_2, .int .i64 a0_3, (.slice A0_4 l0_4.length c0_4), .bool a0_5] 26 (0, 0))) ∧ Aside0 (Below w.heap.size w w'))
  case atStart => exact ⟨(y104), (0), (by first | rfl | (simp; done) | (simp [*]; done)), H', ⟨Nat.le_refl _⟩, ⟨by (with_reducible repeat (first | apply Kd.R_alloc | apply Kd.R_drewN | apply Kd.R_drew)); exact HO106.out⟩, ⟨by (with_reducible repeat (first | refine blk_drewN ?_ _ | refine blk_drew ?_ | refine blk_alloc ?_ _)); exact BK101.out⟩, ⟨by repeat (first | (with_reducible first | exact HB.out | apply below_alloc | apply pw_below_drewN | apply below_drew1 | refine below_set ?_ GE101.out) | exact HB.out)⟩⟩
  case round =>
    clear H'
    try clear c1
    try clear p2
    try clear c3
    try clear hcz8_0
    try clear hcz8_1
    try clear hcz8_2
    try clear hcz8_3
    try clear hcz8_4
    try clear hcz8_5
    try clear hfz8_0
    try clear hfz8_1
    try clear hfz8_2
    try clear hfz8_3
    try clear hfz8_4
    try clear hfz8_5
    obtain ⟨x3_1, x22_1, rfl, HA, HK1, HO_3, BK101, HB⟩ := hrel
    cases gk with
    | zero => exact absurd HA.out (by simp [ask_Code.l0])
    | succ k1 =>
      have H := HA.out
      clear HA
      simp only [ask_Code.l0] at H
      by_cases c9 : x22_1 < (l0_4.length : Int)
      · rw [if_pos c9] at H
        have c9b0 : decide (x22_1 < (l0_4.length : Int)) = true := decide_eq_true c9
        clear c9
        by_cases c10 : 0 ≤ x22_1
        · rw [if_pos c10] at H
          have c10b0 : decide (0 ≤ x22_1) = true := decide_eq_true c10
          clear c10
          by_cases c11 : x22_1 < (l0_4.length : Int)
          · rw [if_pos c11] at H
            have c11b0 : decide (x22_1 < (l0_4.length : Int)) = true := decide_eq_true c11
            clear c11
            obtain ⟨y109, hy109⟩ : ∃ y_ : List Int, y_ = (([(rd_T31 l0_4 x22_1).f0, (rd_T31 l0_4 x22_1).f1] : List Int)) := ⟨_, rfl⟩
            replace H : (if x3_1.length + y109.length < 17592186044416 then (ask_Code.l0 k1 (x3_1 ++ y109) l0_4 (l0_4.length : Int) (wrap64 (x22_1 + 1))) else (none)) = some r := by first | (rw [hy109]; with_reducible exact H) | (have H2_ := (Option.bind_some _ _).symm.trans H; rw [hy109]; with_reducible exact H2_) | (have H2_ := (Option.bind_some _ _).symm.trans H; with_reducible exact H2_) | with_reducible exact H | (rw [hy109]; exact H) | exact H
            have Ny109 := Aside0.mk hy109
            clear hy109
            by_cases c12 : x3_1.length + y109.length < 17592186044416
            · rw [if_pos c12] at H
              have LMc12 := Aside0.mk c12
              clear c12
              obtain ⟨y112, hy112⟩ : ∃ y_ : List Int, y_ = (x3_1 ++ y109) := ⟨_, rfl⟩
              replace H : (ask_Code.l0 k1 y112 l0_4 (l0_4.length : Int) (wrap64 (x22_1 + 1))) = some r := by first | (rw [hy112]; with_reducible exact H) | (have H2_ := (Option.bind_some _ _).symm.trans H; rw [hy112]; with_reducible exact H2_) | (have H2_ := (Option.bind_some _ _).symm.trans H; with_reducible exact H2_) | with_reducible exact H | (rw [hy112]; exact H) | exact H
              have Ny112 := Aside0.mk hy112
              clear hy112
              have H' := Aside0.mk H
              clear H
              have p107 : 0 ≤ (x22_1 : Int) := of_decide_eq_true (by first | (with_reducible assumption) | assumption)
              have q107 : x22_1 < (l0_4.length : Int) := of_decide_eq_true (by first | (with_reducible assumption) | assumption)
              obtain ⟨ad107, e107, hx107_0, hx107_1⟩ := at_T31 HR0_4.out x22_1 p107 q107
              cases e107
              replace hx107_0 := (HB.out.cell (World.block_lt_of_cell? w _ hx107_0)).trans hx107_0
              replace hx107_1 := (HB.out.cell (World.block_lt_of_cell? w _ hx107_1)).trans hx107_1
              replace p107 := eq_true p107
              replace q107 := eq_true q107
              go_wp2_with (first | ((with_reducible refine gate_dst (N := 5) rfl ?_); refine box_event ?hg (N := 5) ?hd (cs := #[.int .i64 0, .int .i64 0]) (t := 31) ?hr ?_; (case hd => rfl); (case hg => rfl); (case hr => first | (go_simp; done) | (go_simp; rfl)); intro gb108 hg w13 hbox hb; have n0_ := Aside0.mk (Kd.R_below (by (with_reducible repeat (first | apply Kd.R_alloc | apply Kd.R_drewN | apply Kd.R_drew)); exact HO_3.out) hb); have n1_ := Aside0.mk (blk_below (g := gb101) (o := .cells #[.int .i64 a0_0, .bool a0_1, .int .i64 a0_2, .int .i64 a0_3, .slice (some ad107) l0_4.length c0_4, .bool a0_5] 26 (0, 0)) (by (with_reducible repeat (first | refine blk_drewN ?_ _ | refine blk_drew ?_ | refine blk_alloc ?_ _)); exact BK101.out) hb); have n2_ := Aside0.mk (below_step (by repeat (first | (with_reducible first | exact HB.out | apply below_alloc | apply pw_below_drewN | apply below_drew1 | refine below_set ?_ GE101.out) | exact HB.out)) hb); have n3_ := Aside0.mk (hbox); have n4_ := Aside0.mk ((by rw [hg]; exact (below_size (by repeat (first | (with_reducible first | exact HB.out | apply below_alloc | apply pw_below_drewN | apply below_drew1 | refine below_set ?_ GE101.out) | exact HB.out))) : w.heap.size ≤ gb108)); have n5_ := Aside0.mk ((by rw [hg]; exact (below_size (by repeat (first | (with_reducible first | exact HB.out | apply below_alloc | apply pw_below_drewN | apply below_drew1 | refine below_set ?_ GE101.out) | exact HB.out))) : w.heap.size ≤ gb108)); have n6_ := Aside0.mk ((by rw [hg]; exact Nat.ne_of_lt (blk_lt (g := gb101) (o := .cells #[.int .i64 a0_0, .bool a0_1, .int .i64 a0_2, .int .i64 a0_3, .slice (some ad107) l0_4.length c0_4, .bool a0_5] 26 (0, 0)) (by (with_reducible repeat (first | refine blk_drewN ?_ _ | refine blk_drew ?_ | refine blk_alloc ?_ _)); exact BK101.out)) : gb101 ≠ gb108)); have n7_ := Aside0.mk ((by rw [hg]; exact Nat.ne_of_gt (blk_lt (g := gb101) (o := .cells #[.int .i64 a0_0, .bool a0_1, .int .i64 a0_2, .int .i64 a0_3, .slice (some ad107) l0_4.length c0_4, .bool a0_5] 26 (0, 0)) (by (with_reducible repeat (first | refine blk_drewN ?_ _ | refine blk_drew ?_ | refine blk_alloc ?_ _)); exact BK101.out)) : gb108 ≠ gb101)); clear HO_3; clear BK101; clear HB; have HO_3 := n0_; have BK101 := n1_; have HB := n2_; have BK108 := n3_; have GW108 := n4_; have GE108 := n5_; have NB101_108 := n6_; have NB108_101 := n7_; clear n0_ n1_ n2_ n3_ n4_ n5_ n6_ n7_; clear hb hbox hg; have hnb14 := NB108_101.out; have hnc14 := NB101_108.out; have hcz15_0 : w13.cell? ⟨gb108, 0, none⟩ = some (.int .i64 0) := (blk_cell BK108.out 0).trans rfl; have hcz15_1 : w13.cell? ⟨gb108, 1, none⟩ = some (.int .i64 0) := (blk_cell BK108.out 1).trans rfl; have hfz15_0 := blk_frozen BK108.out 0; have hfz15_1 := blk_frozen BK108.out 1) | ((with_reducible refine gate_dst (N := 31) rfl ?_); refine Kd.R_lit (Kd.int .i64) _ 2 ?hg (N := 31) ?hd (xs := ([(rd_T31 l0_4 x22_1).f0, (rd_T31 l0_4 x22_1).f1] : List Int)) (inner := [.int .i64 ((rd_T31 l0_4 x22_1).f0), .int .i64 ((rd_T31 l0_4 x22_1).f1)]) (ok := fun _ => True) (okp := fun _ => True) ?hr ?hp (fun _ hk => hk) trivial (Below.refl _ _) (Nat.le_refl _) (by simp) ?_; (case hd => rfl); (case hg => rfl); (case hr => first | (go_simp; done) | (go_simp; rfl)); (case hp => exact (Reps.one (show Kd.M (Kd.int .i64) _ _ _ ((rd_T31 l0_4 x22_1).f0) [.int .i64 ((rd_T31 l0_4 x22_1).f0)] from rfl) (Reps.one (show Kd.M (Kd.int .i64) _ _ _ ((rd_T31 l0_4 x22_1).f1) [.int .i64 ((rd_T31 l0_4 x22_1).f1)] from rfl) (Reps.none _ _)))); intro v110 w16 ho17 hb hg_ hnew_; clear hg_ hnew_; (first | rw [← Ny109.out] at ho17 | (simp only [Int.reduceToNat] at ho17; rw [← Ny109.out] at ho17)); have n0_ := Aside0.mk (Kd.R_elder' (by (with_reducible repeat (first | apply Kd.R_alloc | apply Kd.R_drewN | apply Kd.R_drew)); exact (Kd.R_mono (Kd.R_far (p := ⟨gb108, 1, none⟩) (Kd.R_far (p := ⟨gb108, 0, none⟩) (Kd.R_types HO_3.out BK108.out (by decide)) (fun _ hk => hk.2) (.int .i64 ((rd_T31 l0_4 x22_1).f0))) (fun _ hk => hk.2) (.int .i64 ((rd_T31 l0_4 x22_1).f1))) (fun _ h_ => h_.1))) (Kd.R_base ho17) hb); have n1_ := Aside0.mk (Kd.R_lower (Kd.R_new' ho17 (Kd.R_lt (by (with_reducible repeat (first | apply Kd.R_alloc | apply Kd.R_drewN | apply Kd.R_drew)); exact (Kd.R_mono (Kd.R_far (p := ⟨gb108, 1, none⟩) (Kd.R_far (p := ⟨gb108, 0, none⟩) (Kd.R_types HO_3.out BK108.out (by decide)) (fun _ hk => hk.2) (.int .i64 ((rd_T31 l0_4 x22_1).f0))) (fun _ hk => hk.2) (.int .i64 ((rd_T31 l0_4 x22_1).f1))) (fun _ h_ => h_.1))))) (below_size (by repeat (first | (with_reducible first | exact HB.out | apply below_alloc | apply pw_below_drewN | apply below_drew1 | refine below_set ?_ GE101.out | refine below_set ?_ GE108.out) | exact HB.out)))); have n2_ := Aside0.mk (blk_below (g := gb101) (o := .cells #[.int .i64 a0_0, .bool a0_1, .int .i64 a0_2, .int .i64 a0_3, .slice (some ad107) l0_4.length c0_4, .bool a0_5] 26 (0, 0)) (by (with_reducible repeat (first | refine blk_drewN ?_ _ | refine blk_drew ?_ | refine blk_alloc ?_ _)); refine blk_far ?_ NB101_108.out _; (with_reducible repeat (first | refine blk_drewN ?_ _ | refine blk_drew ?_ | refine blk_alloc ?_ _)); refine blk_far ?_ NB101_108.out _; (with_reducible repeat (first | refine blk_drewN ?_ _ | refine blk_drew ?_ | refine blk_alloc ?_ _)); exact BK101.out) hb); have n3_ := Aside0.mk (blk_below (g := gb108) (o := .cells #[.int .i64 ((rd_T31 l0_4 x22_1).f0), .int .i64 ((rd_T31 l0_4 x22_1).f1)] 31 (0, 0)) (by (with_reducible repeat (first | refine blk_drewN ?_ _ | refine blk_drew ?_ | refine blk_alloc ?_ _)); refine blk_put (cs := #[.int .i64 ((rd_T31 l0_4 x22_1).f0), .int .i64 0]) ?_ 1 _ rfl; (with_reducible repeat (first | refine blk_drewN ?_ _ | refine blk_drew ?_ | refine blk_alloc ?_ _)); refine blk_put (cs := #[.int .i64 0, .int .i64 0]) ?_ 0 _ rfl; (with_reducible repeat (first | refine blk_drewN ?_ _ | refine blk_drew ?_ | refine blk_alloc ?_ _)); exact BK108.out) hb); have n4_ := Aside0.mk (below_step (by repeat (first | (with_reducible first | exact HB.out | apply below_alloc | apply pw_below_drewN | apply below_drew1 | refine below_set ?_ GE101.out | refine below_set ?_ GE108.out) | exact HB.out)) hb); clear HO_3; clear BK101; clear BK108; clear HB; have HO_3 := n0_; have HO111 := n1_; have BK101 := n2_; have BK108 := n3_; have HB := n4_; clear n0_ n1_ n2_ n3_ n4_; clear hb ho17; obtain ⟨Ao19, co19, eo19⟩ := Kd.R_slice HO111.out; subst eo19) | ((with_reducible refine gate_builtin (b := .append) (xs := #[.tmp 26, .tmp 31]) rfl ?_); at_builtin; refine Kd.R_append_rows (Kd.int .i64) (w0 := w) w.heap.size rfl (.tmp 26) (.tmp 31) 28 2 (.int .i64 0) 8 rfl Tryz.underlying28 info2 rfl (by decide) (by omega) u3 x3_1 y109 _ _ _ (fun k_ => some k_ ≠ (.slice Ao19 y109.length co19 : Value).ownBlock) (fun _ => False) rfl rfl ?aO ?aR (fun _ _ h => h) (fun _ h => h.elim) ?aF ?aB ?aS ?aL ?_; (case aR => repeat (first | exact (Kd.R_reads' HO111.out).2.2 | (with_reducible refine Kd.C_alloc ?_ _) | (with_reducible refine Kd.C_drewN ?_ _) | (with_reducible refine Kd.C_drew ?_))); (case aB => exact (by repeat (first | (with_reducible first | exact HB.out | apply below_alloc | apply pw_below_drewN | apply below_drew1 | refine below_set ?_ GE101.out | refine below_set ?_ GE108.out) | exact HB.out))); (case aF => exact (fun k_ hk => Kd.fresh' (Kd.R_lt (by (with_reducible repeat (first | apply Kd.R_alloc | apply Kd.R_drewN | apply Kd.R_drew)); exact HO111.out)) k_ hk)); (case aO => exact (by (with_reducible repeat (first | apply Kd.R_alloc | apply Kd.R_drewN | apply Kd.R_drew)); exact Kd.R_mono HO_3.out (fun _ hk => hk.2))); (case aS => exact (below_size (by repeat (first | (with_reducible first | exact HB.out | apply below_alloc | apply pw_below_drewN | apply below_drew1 | refine below_set ?_ GE101.out | refine below_set ?_ GE108.out) | exact HB.out)))); (case aL => have := LMc12.out; omega); intro v113 w18 ho hb hg hat; rw [← Ny112.out] at ho; have n0_ := Aside0.mk (blk_grown (g := gb101) (o := .cells #[.int .i64 a0_0, .bool a0_1, .int .i64 a0_2, .int .i64 a0_3, .slice (some ad107) l0_4.length c0_4, .bool a0_5] 26 (0, 0)) (by (with_reducible repeat (first | refine blk_drewN ?_ _ | refine blk_drew ?_ | refine blk_alloc ?_ _)); exact BK101.out) hg (Kd.R_ne HO_3.out BK101.out (by decide))); have n1_ := Aside0.mk (blk_grown (g := gb108) (o := .cells #[.int .i64 ((rd_T31 l0_4 x22_1).f0), .int .i64 ((rd_T31 l0_4 x22_1).f1)] 31 (0, 0)) (by (with_reducible repeat (first | refine blk_drewN ?_ _ | refine blk_drew ?_ | refine blk_alloc ?_ _)); exact BK108.out) hg (Kd.R_ne HO_3.out BK108.out (by decide))); have n2_ := Aside0.mk (Kd.R_after (ok := (fun _ => True)) (by (with_reducible repeat (first | apply Kd.R_alloc | apply Kd.R_drewN | apply Kd.R_drew)); exact HO111.out) hg hat); have n3_ := Aside0.mk (hb); have n4_ := Aside0.mk (ho); clear BK101; clear BK108; clear HO111; clear HB; clear HO_3; have BK101 := n0_; have BK108 := n1_; have HO111 := n2_; have HB := n3_; have HO114 := n4_; clear n0_ n1_ n2_ n3_ n4_; clear ho hb hg hat))
              go_roundg k1
              case measure => have := HK1.out; omega
              case rel => exact ⟨(y112), (wrap64 (x22_1 + 1)), (by first | rfl | (simp; done) | (simp [*]; done)), H', ⟨by have := HK1.out; omega⟩, ⟨by (with_reducible repeat (first | apply Kd.R_alloc | apply Kd.R_drewN | apply Kd.R_drew)); exact Kd.R_mono HO114.out (fun _ hk => trivial)⟩, ⟨by (with_reducible repeat (first | refine blk_drewN ?_ _ | refine blk_drew ?_ | refine blk_alloc ?_ _)); exact BK101.out⟩, ⟨by repeat (first | (with_reducible first | exact HB.out | apply below_alloc | apply pw_below_drewN | apply below_drew1 | refine below_set ?_ GE101.out | refine below_set ?_ GE108.out) | exact HB.out)⟩⟩
            · rw [if_neg c12] at H
              exact absurd H (by simp)
          · rw [if_neg c11] at H
            exact absurd H (by simp)
        · rw [if_neg c10] at H
          exact absurd H (by simp)
      · rw [if_neg c9] at H
        have c9b0 : decide (x22_1 < (l0_4.length : Int)) = false := decide_eq_false c9
        clear c9
        obtain rfl := Option.some.inj H
        go_wp2
        go_ret
        exact ⟨_, by first | rfl | (simp [errW_none, errW_some] <;> rfl) | (simp [*, errW_none, errW_some] <;> rfl), by (with_reducible repeat (first | apply Kd.R_alloc | apply Kd.R_drewN | apply Kd.R_drew)); exact HO_3.out, by repeat (first | (with_reducible first | exact HB.out | apply below_alloc | apply pw_below_drewN | apply below_drew1 | refine below_set ?_ GE101.out) | exact HB.out)⟩
def IsS108 (w0 W : World) (g : Nat) (f0 : List (S149)) (f1 : List Int) (f2 : Int) (f3 : Int) (f4 : Int) : Prop := ∃ A0 c0, ∃ A1 c1, W.heap[g]? = some (.cells #[.slice A0 f0.length c0, .slice A1 f1.length c1, .int .i64 f2, .int .i64 f3, .int .i64 f4] 108 (0, 0)) ∧ w0.heap.size ≤ g ∧ Kd.C k149 w0 A0 f0.length f0 ∧ Kd.C (Kd.int .i64) w0 A1 f1.length f1
theorem IsS108.grown {w0 W : World} {g : Nat} {f0 : List (S149)} {f1 : List Int} {f2 : Int} {f3 : Int} {f4 : Int} {W1 : World} {row : Option Nat} (h : IsS108 w0 W g f0 f1 f2 f3 f4) (hw : W.grownBy W1 row) (hne : some g ≠ row) : IsS108 w0 W1 g f0 f1 f2 f3 f4 := by
  obtain ⟨A0, c0, A1, c1, hb, hg, hr0, hr1⟩ := h
  exact ⟨A0, c0, A1, c1, blk_grown hb hw hne, hg, hr0, hr1⟩
theorem IsS108.fresh {w0 W : World} {g : Nat} {f0 : List (S149)} {f1 : List Int} {f2 : Int} {f3 : Int} {f4 : Int} (h : IsS108 w0 W g f0 f1 f2 f3 f4) : ∀ k, W.heap.size ≤ k → k ≠ g := by
  obtain ⟨A0, c0, A1, c1, hb, hg, hr0, hr1⟩ := h
  exact Kd.freshB hb
theorem IsS108.kept {w0 W : World} {g : Nat} {f0 : List (S149)} {f1 : List Int} {f2 : Int} {f3 : Int} {f4 : Int} {W1 : World} {S : Nat → Prop} (h : IsS108 w0 W g f0 f1 f2 f3 f4) (hk : Kept W W1 S) (hne : ¬ S g) : IsS108 w0 W1 g f0 f1 f2 f3 f4 := by
  obtain ⟨A0, c0, A1, c1, hb, hg, hr0, hr1⟩ := h
  exact ⟨A0, c0, A1, c1, blk_kept hb hk hne, hg, hr0, hr1⟩
theorem IsS108.below {w0 W : World} {g : Nat} {f0 : List (S149)} {f1 : List Int} {f2 : Int} {f3 : Int} {f4 : Int} {W1 : World} (h : IsS108 w0 W g f0 f1 f2 f3 f4) (hw : Below W.heap.size W W1) : IsS108 w0 W1 g f0 f1 f2 f3 f4 := h.grown (grown_of_below hw none) (by simp)
theorem IsS108.alloc {w0 W : World} {g : Nat} {f0 : List (S149)} {f1 : List Int} {f2 : Int} {f3 : Int} {f4 : Int} (h : IsS108 w0 W g f0 f1 f2 f3 f4) (o : Obj) : IsS108 w0 (W.alloc o) g f0 f1 f2 f3 f4 := h.below (below_alloc (Below.refl _ _) o)
theorem IsS108.drewN {w0 W : World} {g : Nat} {f0 : List (S149)} {f1 : List Int} {f2 : Int} {f3 : Int} {f4 : Int} (h : IsS108 w0 W g f0 f1 f2 f3 f4) (m : Nat) : IsS108 w0 (W.drewN m) g f0 f1 f2 f3 f4 := h
theorem IsS108.drew {w0 W : World} {g : Nat} {f0 : List (S149)} {f1 : List Int} {f2 : Int} {f3 : Int} {f4 : Int} (h : IsS108 w0 W g f0 f1 f2 f3 f4) : IsS108 w0 W.drew g f0 f1 f2 f3 f4 := h
theorem IsS108.at_ {w0 W : World} {g : Nat} {f0 : List (S149)} {f1 : List Int} {f2 : Int} {f3 : Int} {f4 : Int} {w' : World} {m : Nat} (hq : W.drewN m = w') (h : IsS108 w0 W g f0 f1 f2 f3 f4) : IsS108 w0 w' g f0 f1 f2 f3 f4 := by subst hq; exact IsS108.drewN h m
theorem IsS108.apart {w0 W : World} {g : Nat} {f0 : List (S149)} {f1 : List Int} {f2 : Int} {f3 : Int} {f4 : Int} {α : Type} {d : Kd α} {e : Nat} {base : Nat} {ok : Nat → Prop} {v : Value} {xs : List α} (h : IsS108 w0 W g f0 f1 f2 f3 f4) (ho : d.R e W base ok v xs) (ht : ∀ q, q ∈ e :: d.E → q ≠ 108) : d.R e W base (fun k => ok k ∧ k ≠ g) v xs := by
  obtain ⟨A0, c0, A1, c1, hb, hg, hr0, hr1⟩ := h
  exact Kd.R_types ho hb ht
theorem IsS108.own_ne {w0 W : World} {g : Nat} {f0 : List (S149)} {f1 : List Int} {f2 : Int} {f3 : Int} {f4 : Int} {α : Type} {d : Kd α} {e : Nat} {base : Nat} {ok : Nat → Prop} {v : Value} {xs : List α} (h : IsS108 w0 W g f0 f1 f2 f3 f4) (ho : d.R e W base ok v xs) (ht : e ≠ 108) : some g ≠ v.ownBlock := by
  obtain ⟨A0, c0, A1, c1, hb, hg, hr0, hr1⟩ := h
  exact Kd.R_ne ho hb ht
theorem IsS108.lt {w0 W : World} {g : Nat} {f0 : List (S149)} {f1 : List Int} {f2 : Int} {f3 : Int} {f4 : Int} (h : IsS108 w0 W g f0 f1 f2 f3 f4) : g < W.heap.size := by
  obtain ⟨A0, c0, A1, c1, hb, hg, hr0, hr1⟩ := h
  exact blk_lt hb
theorem IsS108.far {w0 W : World} {g : Nat} {f0 : List (S149)} {f1 : List Int} {f2 : Int} {f3 : Int} {f4 : Int} {p : Addr} (h : IsS108 w0 W g f0 f1 f2 f3 f4) (hne : g ≠ p.block) (u : Value) : IsS108 w0 (W.setCell p u) g f0 f1 f2 f3 f4 := by
  obtain ⟨A0, c0, A1, c1, hb, hg, hr0, hr1⟩ := h
  exact ⟨A0, c0, A1, c1, blk_far hb hne u, hg, hr0, hr1⟩
theorem IsS108.new (w0 W : World) (A0 : Option Addr) (c0 : Nat) (A1 : Option Addr) (c1 : Nat) (f0 : List (S149)) (f1 : List Int) (f2 : Int) (f3 : Int) (f4 : Int) (hB : Below w0.heap.size w0 W) (hr0 : Kd.C k149 w0 A0 f0.length f0) (hr1 : Kd.C (Kd.int .i64) w0 A1 f1.length f1) : IsS108 w0 (W.alloc (.cells #[.slice A0 f0.length c0, .slice A1 f1.length c1, .int .i64 f2, .int .i64 f3, .int .i64 f4] 108)) W.heap.size f0 f1 f2 f3 f4 := ⟨A0, c0, A1, c1, by simpa using heap_alloc_new W _, hB.size, hr0, hr1⟩
def arena_New.f (a0 : Int) : Option ((List (S149)) × List Int × Int × Int × Int) := some (([] : List (S149)), ([] : List Int), mn (mx a0 0) 65536, 0, 0)
set_option maxHeartbeats 8000000 in
set_option maxRecDepth 100000 in
theorem arena_New.calls (a0 : Int) (r1 : List (S149)) (r2 : List Int) (r3 : Int) (r4 : Int) (r5 : Int) (w0 w : World) (hB : Below w0.heap.size w0 w) (h : arena_New.f a0 = some (r1, r2, r3, r4, r5)) :
    Calls Tryz.prog 55 #[.int .i64 a0] w fun e w' => ∃ g_ : Nat, e = .returned (.pointer (some ⟨g_, 0, none⟩)) ∧ IsS108 w0 w' g_ r1 r2 r3 r4 r5 ∧ Below w0.heap.size w0 w' ∧ Below w.heap.size w w' := by
  have hu108 := Tryz.underlying108
  have HBW := Aside0.mk (Below.refl w.heap.size w)
  have HW0 := Aside0.mk hB.size
  have HB := Aside0.mk hB
  clear hB
  have H : (some (([] : List (S149)), ([] : List Int), mn (mx a0 0) 65536, 0, 0)) = some (r1, r2, r3, r4, r5) := h
  clear h
  obtain ⟨ji2, hji2⟩ : ∃ j_ : Int, (mx a0 0) = j_ := ⟨_, rfl⟩
  replace H : (some (([] : List (S149)), ([] : List Int), mn (ji2) 65536, 0, 0)) = some (r1, r2, r3, r4, r5) := by first | (rw [hji2] at H; exact H) | (simp only [hji2] at H ⊢; exact H)
  (try (have hji2l : 0 ≤ ji2 := by (rw [← hji2]; unfold mx; (repeat' split) <;> omega)))
  (try (have hji2m : 0 ≤ ji2 := by omega))
  have hji2_ : (if a0 < 0 then 0 else a0) = ji2 := hji2
  obtain ⟨ji3, hji3⟩ : ∃ j_ : Int, (mn (ji2) 65536) = j_ := ⟨_, rfl⟩
  replace H : (some (([] : List (S149)), ([] : List Int), ji3, 0, 0)) = some (r1, r2, r3, r4, r5) := by first | (rw [hji3] at H; exact H) | (simp only [hji3] at H ⊢; exact H)
  have hji3_ : (if 65536 < (ji2) then 65536 else (ji2)) = ji3 := hji3
  simp only [Option.some.injEq, Prod.mk.injEq] at H
  obtain ⟨rfl, rfl, rfl, rfl, rfl⟩ := H
  go_enter Tryz.func55, Tryz.ntmps55
  go_wp2_with (first | ((with_reducible refine gate_dst (N := 7) rfl ?_); refine box_event ?hg (N := 7) ?hd (cs := #[.slice none 0 0, .slice none 0 0, .int .i64 ji3, .int .i64 0, .int .i64 0]) (t := 108) ?hr ?_; (case hd => rfl); (case hg => rfl); (case hr => first | (go_simp; done) | (go_simp; rfl)); intro gb115 hg w4 hbox hb; have n0_ := Aside0.mk (below_step HBW.out hb); have n1_ := Aside0.mk (below_step (by repeat (first | (with_reducible first | exact HB.out | apply below_alloc | apply pw_below_drewN | apply below_drew1) | exact HB.out)) hb); have n2_ := Aside0.mk (hbox); have n3_ := Aside0.mk ((by rw [hg]; exact (below_size (by repeat (first | (with_reducible first | exact HBW.out | apply below_alloc | apply pw_below_drewN | apply below_drew1) | exact HBW.out))) : w.heap.size ≤ gb115)); have n4_ := Aside0.mk ((Nat.le_trans HW0.out (by rw [hg]; exact (below_size (by repeat (first | (with_reducible first | exact HBW.out | apply below_alloc | apply pw_below_drewN | apply below_drew1) | exact HBW.out))) : w.heap.size ≤ gb115) : w0.heap.size ≤ gb115)); clear HBW; clear HB; have HBW := n0_; have HB := n1_; have BK115 := n2_; have GW115 := n3_; have GE115 := n4_; clear n0_ n1_ n2_ n3_ n4_; clear hb hbox hg))
  go_ret
  exact ⟨_, rfl, (show IsS108 w0 _ gb115 ([] : List (S149)) ([] : List Int) ji3 0 0 from ⟨none, 0, none, 0, by (with_reducible repeat (first | refine blk_drewN ?_ _ | refine blk_drew ?_ | refine blk_alloc ?_ _)); exact BK115.out, GE115.out, (Kd.C_nil _ _), (Kd.C_nil _ _)⟩), by repeat (first | (with_reducible first | exact HB.out | apply below_alloc | apply pw_below_drewN | apply below_drew1 | refine below_set ?_ GE115.out) | exact HB.out), by repeat (first | (with_reducible first | exact HBW.out | apply below_alloc | apply pw_below_drewN | apply below_drew1 | refine below_set ?_ GW115.out) | exact HBW.out)⟩
def ref_Of.f (a0 : Int) (a1 : Int) : Option (Int) := some (Go.bits .or .i64 (wrap64 ((wrap64 (Go.bits .and .u32 a1 8388607)) * 1099511627776)) (Go.bits .and .i64 (wrap64 (a0 + 1)) 1099511627775))
set_option maxHeartbeats 8000000 in
set_option maxRecDepth 100000 in
theorem ref_Of.calls (a0 : Int) (a1 : Int) (r : Int) (w : World) (h : ref_Of.f a0 a1 = some r) :
    Calls Tryz.prog 88 #[.int .i64 a0, .int .u32 a1] w fun e w' => e = .returned (.int .i64 r) ∧ Drawn0 w w' := by
  have H : (some (Go.bits .or .i64 (wrap64 ((wrap64 (Go.bits .and .u32 a1 8388607)) * 1099511627776)) (Go.bits .and .i64 (wrap64 (a0 + 1)) 1099511627775))) = some r := h
  clear h
  obtain rfl := Option.some.inj H
  go_enter Tryz.func88, Tryz.ntmps88
  go_wp2
  go_ret
  exact ⟨by first | rfl | (simp; done) | (simp [*]; done), by repeat (first | exact Drawn0.refl _ | apply Drawn0.step)⟩
end Go.Proofs.YthlmgbdknjilpaaGreat.PAskKinds
namespace Go.Proofs.YthlmgbdknjilpaaGreat.Tower
open Go Go.RowKit Go.Proofs.YthlmgbdknjilpaaGreatW.PrintWords Go.Proofs.YthlmgbdknjilpaaGreatW.PrintLast Go.Proofs.YthlmgbdknjilpaaGreatW.PrintMore Go.Proofs.YthlmgbdknjilpaaGreat.Own Go.Proofs.YthlmgbdknjilpaaGreat.PAskKinds
set_option linter.unusedVariables false
set_option linter.unusedSimpArgs false
def codeOf (a : Ans) : List Int := [a.err, b01 a.found, a.key, a.value, b01 a.short] ++ a.pairs.flatMap fun q => [q.1, q.2]
theorem code_l0 (xs : List S31) (hl : xs.length < 1000000) : ∀ (k i : Nat) (x3 : List Int), i ≤ xs.length → xs.length - i < k → x3.length + 2 * (xs.length - i) < 17592186044416 → ask_Code.l0 k x3 xs (xs.length : Int) (i : Int) = some (x3 ++ (xs.drop i).flatMap fun q => [q.f0, q.f1])
  | 0, i, x3, h1, h2, h3 => by omega
  | k + 1, i, x3, h1, h2, h3 => by
    unfold ask_Code.l0
    by_cases hlt : i < xs.length
    · rw [if_pos (by omega), if_pos (by omega), if_pos (by omega)]
      simp only [Option.bind_some]
      rw [if_pos (by simp; omega)]
      have hw : wrap64 ((i : Int) + 1) = ((i + 1 : Nat) : Int) := by unfold wrap64; omega
      rw [hw, code_l0 xs hl k (i + 1) _ (by omega) (by omega) (by simp; omega), List.drop_eq_getElem_cons hlt]
      have hg : rd_T31 xs (i : Int) = xs[i] := by simp [rd_T31, List.getD_eq_getElem?_getD, hlt]
      rw [hg, List.flatMap_cons, List.append_assoc]
    · rw [if_neg (by omega)]
      rw [List.drop_of_length_le (by omega)]
      simp
theorem bit_f (b : Bool) : ask_bit.f b = some (b01 b) := by cases b <;> rfl
def toS (q : Int × Int) : S31 := ⟨q.1, q.2⟩
theorem code_f (a : Ans) (hl : a.pairs.length < 1000000) : ask_Code.f 1000001 a.err a.found a.key a.value (a.pairs.map toS) a.short = some (codeOf a) := by
  unfold ask_Code.f
  rw [bit_f, bit_f]
  simp only [Option.bind_some]
  have h := code_l0 (a.pairs.map toS) (by simpa using hl) 1000001 0 [a.err, b01 a.found, a.key, a.value, b01 a.short] (Nat.zero_le _) (by simp; omega) (by simp; omega)
  rw [Int.natCast_zero] at h
  rw [h, List.drop_zero]
  simp [codeOf, List.flatMap_map, toS]
theorem pairs_C {w : World} {A : Option Addr} {n : Nat} {xs : List (Int × Int)} (h : kPair.C w A n xs) : Kd.C k31 w A n (xs.map toS) := by
  refine ⟨by rw [List.length_map]; exact h.1, h.2.1, fun hp => ?_⟩
  obtain ⟨ad, e, hc⟩ := h.2.2 hp
  refine ⟨ad, e, fun j q hq => ?_⟩
  rw [List.getElem?_map] at hq
  cases hx : xs[j]? with
  | none => rw [hx] at hq; cases hq
  | some x =>
    rw [hx] at hq
    injection hq with hq
    subst hq
    exact hc j x hx
theorem code_calls (a : Ans) (A : Option Addr) (c : Nat) (w : World) (hC : kPair.C w A a.pairs.length a.pairs) (hc : a.pairs.length ≤ c) (hl : a.pairs.length < 1000000) :
    Calls Tryz.prog 10 #[.agg #[.int .i64 a.err, .bool a.found, .int .i64 a.key, .int .i64 a.value, .slice A a.pairs.length c, .bool a.short]] w fun e w' => ∃ v, e = .returned v ∧ (Kd.int .i64).R 2 w' w.heap.size (fun _ => True) v (codeOf a) ∧ Below w.heap.size w w' := by
  have h := ask_Code.calls 1000001 a.err a.found a.key a.value A c (a.pairs.map toS) a.short (codeOf a) w (by rw [List.length_map]; exact pairs_C hC) (by rw [List.length_map]; exact hc) (code_f a hl)
  rw [List.length_map] at h
  exact h
end Go.Proofs.YthlmgbdknjilpaaGreat.Tower
namespace Go.Proofs.YthlmgbdknjilpaaGreat.Tower
open Go Go.RowKit Go.Proofs.YthlmgbdknjilpaaGreatW.PrintWords Go.Proofs.YthlmgbdknjilpaaGreatW.PrintLast Go.Proofs.YthlmgbdknjilpaaGreatW.PrintMore Go.Proofs.YthlmgbdknjilpaaGreat.Own
set_option linter.unusedVariables false
set_option linter.unusedSimpArgs false
def askNT (me : Int) (f : Nat) (dT : Pr Ws Ans) : Pr Ws (List Int) := prBind (beginT me f) fun _ => prBind dT fun a => prBind (endT me) fun _ => prRet (codeOf a)
structure AskBx (p : Nat) (me : Int) (o : Opn) (bw bm bo : Nat) (ok : Nat → Prop) (w : World) : Prop where
  hw : Mine ok w bw (.cells #[.pointer (some ⟨p, 0, none⟩)] 39 (0, 0))
  hm : Mine ok w bm (.cells #[.int .i64 me] 3 (0, 0))
  ho : Mine ok w bo (.cells #[.int .u8 o.kind, .int .i64 o.key, .int .i64 o.upto, .int .i64 o.value] 38 (0, 0))
theorem AskBx.moves {p : Nat} {me : Int} {o : Opn} {bw bm bo : Nat} (ok ok1 : Nat → Prop) (w w1 : World) (h : AskBx p me o bw bm bo ok w) (m : Moves ok ok1 w w1) : AskBx p me o bw bm bo ok1 w1 := ⟨h.hw.moves m, h.hm.moves m, h.ho.moves m⟩
def askWork (bw bm bo : Nat) : Value := .func (.func 39) #[] #[.pointer (some ⟨bw, 0, none⟩), .pointer (some ⟨bm, 0, none⟩), .pointer (some ⟨bo, 0, none⟩)]
set_option maxHeartbeats 4000000 in
set_option maxRecDepth 100000 in
theorem asknew1_calls (p tb : Nat) (work : Value) (me : Int) (o : Opn) (bw bm bo : Nat) (ok : Nat → Prop) (s : TS Ws) (w : World) (f : Nat) (dT : Pr Ws Ans) (h : IsRun (shW p) tb work ok s w) (hb : AskBx p me o bw bm bo ok w)
    (hdo : ∀ ok s w res, IsRun (shW p) tb work ok s w → dT s = some res → Calls Tryz.prog 41 #[taskV tb p me, opV o] w (TPost (shW p) tb work VAns ok w res))
    (hsm : ∀ s a t, dT s = some (.ret a, t) → a.pairs.length < 1000000)
    (res : Out (List Int) × TS Ws) (hr : askNT me f dT s = some res) :
    Calls Tryz.prog 39 #[.pointer (some ⟨tb, 0, none⟩), .pointer (some ⟨bw, 0, none⟩), .pointer (some ⟨bm, 0, none⟩), .pointer (some ⟨bo, 0, none⟩)] w (TPost (shW p) tb work (VNums w.heap.size) ok w res) := by
  obtain ⟨o1, t1, hd1, hc1⟩ := prBind_some hr
  have HT := Aside0.mk (TaskAt.enter (me := me) h)
  have HB := Aside0.mk (AskBx.moves _ _ _ _ hb ((Moves.refl ok w).alloc (taskO tb p me)))
  have HD1 := Aside0.mk hd1
  have HC1 := Aside0.mk hc1
  have HDO := Aside0.mk hdo
  have HSM := Aside0.mk hsm
  have m0 := (blk_cell hb.hw.1 0).trans (rfl : _ = some (Value.pointer (some ⟨p, 0, none⟩)))
  have m1 := (blk_cell hb.hm.1 0).trans (rfl : _ = some (Value.int .i64 me))
  have HWZ := Aside0.mk (Nat.le_refl w.heap.size)
  unfold taskO at HT HB
  clear h hb hr hd1 hc1 hdo hsm
  go_enter Tryz.func39, Tryz.ntmps39
  go_upto_region 4 with fail
  generalize w.alloc (.cells #[.pointer (some ⟨tb, 0, none⟩), .pointer (some ⟨p, 0, none⟩), .int .i64 me] 84) = w1 at HT HB ⊢
  generalize hbb : w.heap.size = bt at HT ⊢
  have c0 := HT.out.c0
  have c1 := HT.out.c1
  have c2 := HT.out.c2
  clear m0 m1 HWZ
  go_upto_region 5 with (go_at_call 40; refine (begin_calls p tb work me ok s _ f HT.out.run (o1, t1) HD1.out).mono ?_; rintro e w2 ⟨ok2, hm, hi, hres⟩; rcases HC1.out with hw | hw; (obtain ⟨rfl, rfl⟩ := hw; obtain rfl : e = .panicked waitP := hres; exact ⟨rfl, ⟨⟨ok2, HT.out.moves.trans hm, hi, rfl⟩⟩⟩); obtain ⟨u1, rfl, hr2⟩ := hw; obtain ⟨v, rfl, rfl⟩ := hres; have HT2 := Aside0.mk (HT.out.next hm hi); have HB2 := Aside0.mk (AskBx.moves _ _ _ _ HB.out hm); have HR2 := Aside0.mk hr2; clear hm hi hr2 c0 c1 c2)
  obtain ⟨o2, t2, hd2, hc2⟩ := prBind_some HR2.out
  have HD2 := Aside0.mk hd2
  have HC2 := Aside0.mk hc2
  clear hd2 hc2 HR2 HT HB HD1 HC1
  have c0 := HT2.out.c0
  have c1 := HT2.out.c1
  have c2 := HT2.out.c2
  have k0 := (blk_cell HB2.out.ho.1 0).trans (rfl : _ = some (Value.int .u8 o.kind))
  have k1 := (blk_cell HB2.out.ho.1 1).trans (rfl : _ = some (Value.int .i64 o.key))
  have k2 := (blk_cell HB2.out.ho.1 2).trans (rfl : _ = some (Value.int .i64 o.upto))
  have k3 := (blk_cell HB2.out.ho.1 3).trans (rfl : _ = some (Value.int .i64 o.value))
  go_upto_region 6 with (go_at_call 41; refine (HDO.out ok2 t1 _ (o2, t2) HT2.out.run HD2.out).mono ?_; rintro e w3 ⟨ok3, hm, hi, hres⟩; rcases HC2.out with hw | hw; (obtain ⟨rfl, rfl⟩ := hw; obtain rfl : e = .panicked waitP := hres; exact ⟨rfl, ⟨⟨ok3, HT2.out.moves.trans hm, hi, rfl⟩⟩⟩); obtain ⟨a, rfl, hr3⟩ := hw; obtain ⟨v, rfl, A, c, rfl, hcl, hF⟩ := hres; have HT3 := Aside0.mk (HT2.out.next hm hi); have HR3 := Aside0.mk hr3; have HCL := Aside0.mk hcl; have HF := Aside0.mk hF; clear hm hi hr3 hcl hF c0 c1 c2 k0 k1 k2 k3)
  obtain ⟨o3, t3, hd3, hc3⟩ := prBind_some HR3.out
  have HD3 := Aside0.mk hd3
  have HC3 := Aside0.mk hc3
  have HAL := Aside0.mk (HSM.out _ _ _ HD2.out)
  clear hd3 hc3 HR3 HB2 HD2 HC2 HDO HSM HT2
  have HBA := Aside0.mk (Mine.new HT3.out.lt (.cells #[.int .i64 a.err, .bool a.found, .int .i64 a.key, .int .i64 a.value, .slice A a.pairs.length c, .bool a.short] 26))
  have HT4 := Aside0.mk (HT3.out.alloc (.cells #[.int .i64 a.err, .bool a.found, .int .i64 a.key, .int .i64 a.value, .slice A a.pairs.length c, .bool a.short] 26))
  have HF4 := Aside0.mk (Kd.F_alloc (Kd.F_bound HF.out) (.cells #[.int .i64 a.err, .bool a.found, .int .i64 a.key, .int .i64 a.value, .slice A a.pairs.length c, .bool a.short] 26))
  clear HT3 HF
  generalize w3.alloc (.cells #[.int .i64 a.err, .bool a.found, .int .i64 a.key, .int .i64 a.value, .slice A a.pairs.length c, .bool a.short] 26) = w4 at HBA HT4 HF4 ⊢
  generalize w3.heap.size = b7 at HBA HF4 ⊢
  have c0 := HT4.out.c0
  have c1 := HT4.out.c1
  have c2 := HT4.out.c2
  go_upto_region 7 with (go_at_call 42; refine (end_calls p tb work me ok3 t2 _ HT4.out.run (o3, t3) HD3.out).mono ?_; rintro e w5 ⟨ok4, hm, hi, hres⟩; rcases HC3.out with hw | hw; (obtain ⟨rfl, rfl⟩ := hw; obtain rfl : e = .panicked waitP := hres; exact ⟨rfl, ⟨⟨ok4, HT4.out.moves.trans hm, hi, rfl⟩⟩⟩); obtain ⟨u3, rfl, hr4⟩ := hw; obtain ⟨v, rfl, rfl⟩ := hres; have HT5 := Aside0.mk (HT4.out.next hm hi); have HBA := Aside0.mk (HBA.out.moves hm); have HF5 := Aside0.mk (F_moves (Kd.F_mono HF4.out (fun _ hk => hk.1)) hm); have HR4 := Aside0.mk hr4; clear hm hi hr4 c0 c1 c2)
  have a0 := (blk_cell HBA.out.1 0).trans (rfl : _ = some (Value.int .i64 a.err))
  have a1 := (blk_cell HBA.out.1 1).trans (rfl : _ = some (Value.bool a.found))
  have a2 := (blk_cell HBA.out.1 2).trans (rfl : _ = some (Value.int .i64 a.key))
  have a3 := (blk_cell HBA.out.1 3).trans (rfl : _ = some (Value.int .i64 a.value))
  have a4 := (blk_cell HBA.out.1 4).trans (rfl : _ = some (Value.slice A a.pairs.length c))
  have a5 := (blk_cell HBA.out.1 5).trans (rfl : _ = some (Value.bool a.short))
  go_wp2_with (go_at_call 10; refine (code_calls a A c _ (Kd.F_now HF5.out) HCL.out HAL.out).mono ?_; rintro e w6 ⟨v, rfl, hv, hb6⟩; have V6 := Aside0.mk hv; have B6 := Aside0.mk hb6; clear hv hb6)
  go_ret
  have hh := HR4.out
  injection hh with hh
  subst hh
  have hsz : bt ≤ w5.heap.size := by rw [← hbb]; exact HT5.out.moves.size
  exact ⟨⟨ok4, HT5.out.moves.below B6.out, HT5.out.run.below (shW_shared p) B6.out, v, rfl, Kd.R_lower (Kd.R_mono (Kd.R_bound V6.out) (fun k hk hk2 => by have := HT5.out.lt k hk2; have := hk.2.1; omega)) HT5.out.moves.size⟩⟩
structure AskMade (p : Nat) (me : Int) (o : Opn) (w : World) (e : Ending) (w1 : World) : Prop where
  out : ∃ tb bw bm bo, e = .returned (.pointer (some ⟨tb, 0, none⟩)) ∧ w.heap.size ≤ tb ∧ w.heap.size ≤ bw ∧ w.heap.size ≤ bm ∧ w.heap.size ≤ bo ∧ tb ≠ bw ∧ tb ≠ bm ∧ tb ≠ bo ∧ IsThread (fun k => k = tb) tb (askWork bw bm bo) th0 w1 ∧
    AskBx p me o bw bm bo (fun _ => False) w1 ∧ Below w.heap.size w w1
set_option maxHeartbeats 2000000 in
set_option maxRecDepth 100000 in
theorem asknew_calls (p : Nat) (me : Int) (o : Opn) (w : World) :
    Calls Tryz.prog 14 #[.pointer (some ⟨p, 0, none⟩), .int .i64 me, opV o] w (AskMade p me o w) := by
  have hmf : ∀ (fn : Fn) (first cap : Array Value) (w : World), (Instr.makeFunc fn first cap).run Tryz.prog w = .ok (.func fn first cap) w := fun _ _ _ _ => rfl
  unfold opV
  go_enter Tryz.func14, Tryz.ntmps14
  go_upto_region 1 with fail
  have b1 := Aside0.mk (blk_alloc (blk_alloc (blk_new w (.cells #[.pointer (some ⟨p, 0, none⟩)] 39)) (.cells #[.int .i64 me] 3)) (.cells #[.int .u8 o.kind, .int .i64 o.key, .int .i64 o.upto, .int .i64 o.value] 38))
  have b2 := Aside0.mk (blk_alloc (blk_new (w.alloc (.cells #[.pointer (some ⟨p, 0, none⟩)] 39)) (.cells #[.int .i64 me] 3)) (.cells #[.int .u8 o.kind, .int .i64 o.key, .int .i64 o.upto, .int .i64 o.value] 38))
  have b3 := Aside0.mk (blk_new ((w.alloc (.cells #[.pointer (some ⟨p, 0, none⟩)] 39)).alloc (.cells #[.int .i64 me] 3)) (.cells #[.int .u8 o.kind, .int .i64 o.key, .int .i64 o.upto, .int .i64 o.value] 38))
  have bb := Aside0.mk (below_alloc (below_alloc (below_alloc (Below.refl w.heap.size w) (.cells #[.pointer (some ⟨p, 0, none⟩)] 39)) (.cells #[.int .i64 me] 3)) (.cells #[.int .u8 o.kind, .int .i64 o.key, .int .i64 o.upto, .int .i64 o.value] 38))
  have e1 : (w.alloc (.cells #[.pointer (some ⟨p, 0, none⟩)] 39)).heap.size = w.heap.size + 1 := by simp
  have e2 : ((w.alloc (.cells #[.pointer (some ⟨p, 0, none⟩)] 39)).alloc (.cells #[.int .i64 me] 3)).heap.size = w.heap.size + 1 + 1 := by simp
  rw [e1] at b2
  rw [e2] at b3
  clear e1 e2
  generalize ((w.alloc (.cells #[.pointer (some ⟨p, 0, none⟩)] 39)).alloc (.cells #[.int .i64 me] 3)).alloc (.cells #[.int .u8 o.kind, .int .i64 o.key, .int .i64 o.upto, .int .i64 o.value] 38) = w1 at b1 b2 b3 bb ⊢
  go_wp2_with (go_at_call 38; refine (new_calls 39 #[.pointer (some ⟨w.heap.size, 0, none⟩), .pointer (some ⟨w.heap.size + 1, 0, none⟩), .pointer (some ⟨w.heap.size + 1 + 1, 0, none⟩)] _).mono ?_; rintro e w2 ⟨tb, rfl, htb, hth, hbl⟩; have T0 := Aside0.mk htb; have T1 := Aside0.mk hth; have T2 := Aside0.mk hbl; clear htb hth hbl)
  go_ret
  have l1 := blk_lt b1.out
  have l2 := blk_lt b2.out
  have l3 := blk_lt b3.out
  have l4 := T0.out
  exact ⟨⟨tb, w.heap.size, w.heap.size + 1, w.heap.size + 1 + 1, rfl, by omega, by omega, by omega, by omega, by omega, by omega, by omega, T1.out, ⟨⟨blk_below b1.out T2.out, id⟩, ⟨blk_below b2.out T2.out, id⟩, ⟨blk_below b3.out T2.out, id⟩⟩, below_then bb.out bb.out.size T2.out⟩⟩
theorem alone_ret {X : Type} (tw : Pr X (List Int)) : ∀ (f : Nat) (x : X) (log : List Int) (l : List Int) (q : Nat × X × List Int), aloneT tw f x log = some (some l, q) → ∃ s s1, tw s = some (.ret l, s1)
  | 0, x, log, l, q, h => by
    injection h with h
    cases h
  | f + 1, x, log, l, q, h => by
    unfold aloneT at h
    cases ht : tw ⟨x, log, 0, false⟩ with
    | none => rw [ht] at h; cases h
    | some r =>
      obtain ⟨o, s1⟩ := r
      rw [ht] at h
      cases o with
      | wait => exact alone_ret tw f _ _ l q h
      | ret l1 =>
        injection h with h
        injection h with h _
        injection h with h
        subst h
        exact ⟨_, _, ht⟩
theorem getT_pairs {key : Int} {f : Nat} {s t : TS Ws} {a : Ans} (h : getT key f s = some (.ret a, t)) : a.pairs = [] := by
  obtain ⟨o, t1, hm, hc⟩ := prBind_some h
  rcases hc with ⟨_, hc⟩ | ⟨q, rfl, hc⟩
  · injection hc with hc _; cases hc
  injection hc with hc
  injection hc with hc _
  injection hc with hc
  rw [← hc]
theorem askNT_get_len {me key : Int} {f g : Nat} {s t : TS Ws} {l : List Int} (h : askNT me f (getT key g) s = some (.ret l, t)) : l.length = 5 := by
  obtain ⟨o, t1, hm, hc⟩ := prBind_some h
  rcases hc with ⟨_, hc⟩ | ⟨u, rfl, hc⟩
  · injection hc with hc _; cases hc
  obtain ⟨o, t2, hm2, hc⟩ := prBind_some hc
  rcases hc with ⟨_, hc⟩ | ⟨a, rfl, hc⟩
  · injection hc with hc _; cases hc
  obtain ⟨o, t3, hm3, hc⟩ := prBind_some hc
  rcases hc with ⟨_, hc⟩ | ⟨u, rfl, hc⟩
  · injection hc with hc _; cases hc
  injection hc with hc
  injection hc with hc _
  injection hc with hc
  rw [← hc]
  simp [codeOf, getT_pairs hm2]
theorem get_alone (p tb : Nat) (me key upto value : Int) (bw bm bo : Nat) (ok : Nat → Prop) (x : Ws) (log : List Int) (at_ : Int) (spent : Bool) (w : World) (f g : Nat) (hg : g < 900000)
    (h : Idle (shW p) tb (askWork bw bm bo) ok x (thOf log at_ spent) w) (hl : log.length < 1000000) (hB : AskBx p me ⟨0, key, upto, value⟩ bw bm bo ok w)
    (res : Option (List Int) × Nat × Ws × List Int) (hr : aloneT (askNT me f (getT key g)) 3000 x log = some res) :
    Calls Tryz.prog 15 #[.pointer (some ⟨tb, 0, none⟩)] w (AlonePost (shW p) tb (askWork bw bm bo) ok res w) := by
  refine alone_calls (shW_shared p) tb 39 #[.pointer (some ⟨bw, 0, none⟩), .pointer (some ⟨bm, 0, none⟩), .pointer (some ⟨bo, 0, none⟩)] ok x log at_ spent w (AskBx p me ⟨0, key, upto, value⟩ bw bm bo) (askNT me f (getT key g)) h hl (AskBx.moves) hB (enters Tryz.func39 (by kernel_rfl) rfl _) ?_ ?_ res hr
  · intro ok1 s w1 res1 hi hb hres
    exact asknew1_calls p tb _ me ⟨0, key, upto, value⟩ bw bm bo ok1 s w1 f (getT key g) hi hb (fun ok s w res h1 h2 => do_get p tb _ me ok s w key upto value h1 g hg res h2) (fun s a t h1 => by rw [getT_pairs h1]; simp) res1 hres
  · intro l q x1 log1 h1
    obtain ⟨s, s1, h2⟩ := alone_ret _ _ _ _ _ _ h1
    have := askNT_get_len h2
    omega
def qRoot : Int := 1099511627777
def qEntry : Int := 1099511627778
def X19 : Ws := ⟨⟨[slotOf nd0 1, slotOf (ndE qRoot) 1], [], 9, 2, 0⟩, ⟨[], 9⟩, ⟨0, [-1], [[]]⟩, 2, 3, qEntry⟩
theorem x19_made : ws0 2 3 1 9 9 = some X19 := by kernel_rfl
theorem x19_runs : (aloneT (askNT 0 9 (getT 5 9)) 3000 X19 []).map (fun r => (r.1, r.2.1)) = some (some [0, 0, 0, 0, 0], 2992) := by kernel_rfl
theorem x19_good : X19.Good := ⟨⟨by decide, by decide, by decide, by decide, fun i s hi => by
  have hl : i < 2 := (List.getElem?_eq_some_iff.1 hi).1
  match i, hl with
  | 0, _ => simp [X19] at hi; subst hi; exact ⟨⟨by decide, by decide, by decide⟩, by decide⟩
  | 1, _ => simp [X19] at hi; subst hi; exact ⟨⟨by decide, by decide, by decide⟩, by decide⟩⟩, ⟨by decide⟩, ⟨by decide, by decide, fun i e hi => by simp [X19] at hi⟩⟩
set_option maxHeartbeats 4000000 in
set_option maxRecDepth 100000 in
theorem awake19 (w : World) : Calls Tryz.prog 9 #[] w fun e w1 => e = .returned (.bool true) ∧ Below w.heap.size w w1 := by
  go_enter Tryz.func9, Tryz.ntmps9
  go_upto_region 2 with (go_at_call 32; refine (world_new 2 3 1 9 9 _ (by omega) (by omega) (by omega) (by omega) (by omega) (by omega) (by omega) (by omega) (by omega) (by omega) X19 x19_made).mono ?_; rintro e w1 ⟨ok1, p, rfl, hw1, hf1, hb1⟩; have W1 := Aside0.mk hw1; have F1 := Aside0.mk hf1; have B1 := Aside0.mk hb1; clear hw1 hf1 hb1)
  go_upto_region 5 with (go_at_call 14; refine (asknew_calls p 0 ⟨0, 5, 0, 0⟩ _).mono ?_; rintro e w2 ⟨tb, bw, bm, bo, rfl, h1, h2, h3, h4, h5, h6, h7, ht, hs, hb⟩; have L2 := Aside0.mk (And.intro h1 (And.intro h2 (And.intro h3 h4))); have N2 := Aside0.mk (And.intro h5 (And.intro h6 h7)); have T2 := Aside0.mk ht; have S2 := Aside0.mk hs; have B2 := Aside0.mk hb; clear h1 h2 h3 h4 h5 h6 h7 ht hs hb)
  have hlt1 : ∀ k, ok1 k → k < w1.heap.size := (worldShared p).lt W1.out
  have hW2 : shW p X19 ok1 w2 := ⟨(worldShared p).step W1.out B2.out.size (fun k _ hlt => B2.out.block k hlt), x19_good⟩
  obtain ⟨l1, l2, l3, l4⟩ := L2.out
  obtain ⟨n1, n2, n3⟩ := N2.out
  have HID : Aside0 (Idle (shW p) tb (askWork bw bm bo) (fun k => k = tb ∨ ok1 k) X19 (thOf [] 0 false) w2) := ⟨⟨fun k => k = tb, ok1, fun _ => Iff.rfl, fun k hk h => by have := hlt1 k h; omega, T2.out, hW2⟩⟩
  have hno : ∀ b, w1.heap.size ≤ b → tb ≠ b → ¬ (b = tb ∨ ok1 b) := fun b hb hn h => h.elim (fun e => hn e.symm) (fun h1 => by have := hlt1 b h1; omega)
  have HBX : Aside0 (AskBx p 0 ⟨0, 5, 0, 0⟩ bw bm bo (fun k => k = tb ∨ ok1 k) w2) := ⟨⟨⟨S2.out.hw.1, hno bw l2 n1⟩, ⟨S2.out.hm.1, hno bm l3 n2⟩, ⟨S2.out.ho.1, hno bo l4 n3⟩⟩⟩
  have HB2 := Aside0.mk (below_then B1.out B1.out.size B2.out)
  have HO2 : Aside0 (∀ k, (k = tb ∨ ok1 k) → w.heap.size ≤ k) := ⟨fun k hk => hk.elim (fun e => by have := B1.out.size; omega) (F1.out k)⟩
  clear hlt1 hW2 l1 l2 l3 l4 n1 n2 n3 hno W1 F1 B1 L2 N2 T2 S2 B2
  obtain ⟨res, hres, hmap⟩ := Option.map_eq_some_iff.1 x19_runs
  obtain ⟨o3, n3, x3, log3⟩ := res
  injection hmap with hm1 hm2
  simp only at hm1 hm2
  subst hm1
  subst hm2
  have HRS := Aside0.mk hres
  clear hres
  go_upto_region 6 with (go_at_call 15; refine (get_alone p tb 0 5 0 0 bw bm bo _ X19 [] 0 false _ 9 9 (by omega) HID.out (by simp) HBX.out _ HRS.out).mono ?_; rintro e w3 ⟨ok3, hm3, _, at3, sp3, hi3, v, rfl, hv⟩; have B3 := Aside0.mk (moves_outer hm3 HB2.out HO2.out); have I3 := Aside0.mk hi3; rw [show ((3000 - ((some [0, 0, 0, 0, 0], 2992, x3, log3) : Option (List Int) × Nat × Ws × List Int).snd.fst : Nat) : Int) = 8 from rfl]; clear hm3 hi3 hv HID HBX HB2 HO2 HRS)
  obtain ⟨okT, okS, _, _, ht3, _⟩ := I3.out.out
  have T3 := Aside0.mk ht3
  clear ht3 I3
  go_upto_region 7 with (go_at_call 10; refine (code_calls ⟨0, true, 3, 0, [], false⟩ none 0 _ (Kd.R_reads' (Kd.R_nil (kPair) 0 w3 0 (fun _ => True))).2.2 (Nat.le_refl _) (by simp)).mono ?_; rintro e w4 ⟨v7, rfl, hv, hb⟩; obtain ⟨A7, c7, rfl⟩ := Kd.R_slice hv; have V7 := Aside0.mk hv; have B4 := Aside0.mk (below_then B3.out B3.out.size hb); have T4 := Aside0.mk (T3.out.step hb.size (fun k _ hlt => hb.block k hlt)); clear hv hb)
  have hcd : codeOf ⟨0, true, 3, 0, [], false⟩ = [0, 1, 3, 0, 0] := rfl
  rw [hcd] at V7 ⊢
  clear hcd B3 T3
  obtain ⟨g, cap, e1, _⟩ := Kd.R_form V7.out (by simp)
  injection e1 with e1 _ _
  subst e1
  have hl5 : ([0, 1, 3, 0, 0] : List Int).length = 5 := rfl
  have hl6 : ([0, 0, 0, 0, 0] : List Int).length = 5 := rfl
  have HOC := Aside0.mk (out_calls w4 T4.out rfl (by simp))
  clear T4
  rw [hl5] at V7 ⊢
  go_wp2_with (go_at_call 16; refine HOC.out.mono ?_; rintro e w5 ⟨vo, rfl, hv, hb⟩; obtain ⟨Ao, co, rfl⟩ := Kd.R_slice hv; have V5 := Aside0.mk (Kd.R_below V7.out hb); have B5 := Aside0.mk (below_then B4.out B4.out.size hb); have r1 := (Kd.R_cell (0 : Int) V5.out 1 (by omega) (by omega)).1; have q1 : w5.cell? ⟨g, 1, none⟩ = some (.int .i64 1) := r1; have r2 := (Kd.R_cell (0 : Int) V5.out 2 (by omega) (by omega)).1; have q2 : w5.cell? ⟨g, 2, none⟩ = some (.int .i64 3) := r2; clear r1 r2; clear hv hb; try rw [hl6])
  go_ret
  exact ⟨rfl, B5.out⟩
end Go.Proofs.YthlmgbdknjilpaaGreat.Tower
