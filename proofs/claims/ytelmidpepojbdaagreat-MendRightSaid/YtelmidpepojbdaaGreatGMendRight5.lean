/- For every input the law MendRight answers true, and the input reads as it did. No conditions. -/
import Derived.Test.YtelmidpepojbdaaGreatRows
import Derived.Test.YtelmidpepojbdaaGreatGMendRight0
import Derived.Test.YtelmidpepojbdaaGreatGMendRight1
import Derived.Test.YtelmidpepojbdaaGreatGMendRight2
import Derived.Test.YtelmidpepojbdaaGreatGMendRight3
import Derived.Test.YtelmidpepojbdaaGreatGMendRight4
import Derived.Deep.Slices
import Derived.Deep.SlicePairs
import Derived.Lib.SmallJoins
import Derived.OpenShut
import Derived.ShutString
import Derived.ChangeOld
import Derived.SizedLaws
namespace Go.Proofs.YtelmidpepojbdaaGreat.PMendRight
open Go.RowKit Go.Proofs.YtelmidpepojbdaaGreatW.PrintWords Go.Proofs.YtelmidpepojbdaaGreatW.PrintLast Go.Proofs.YtelmidpepojbdaaGreatW.PrintMore
attribute [local go_sem] max2_int min2_int max_two min_two max_three min_three max_four min_four
set_option linter.unusedVariables false
set_option linter.unusedSimpArgs false
mutual
def boscagelaw11_Same.j0 : Nat → Bool → Bool → Bool → List (S106) → List Int → List (S29) → Bool → Bool → List (S106) → List Int → List (S29) → Option (Bool)
  | 0, _, _, _, _, _, _, _, _, _, _, _ => none
  | k + 1, x44, x228000, x228001, x228002, x228003, x228004, x229000, x229001, x229002, x229003, x229004 => if x44 = true then (some false) else (boscagelaw11_Same.l0 k (x228003.length : Int) 0 x228000 x228001 x228002 x228003 x228004 x229000 x229001 x229002 x229003 x229004)
def boscagelaw11_Same.l0 : Nat → Int → Int → Bool → Bool → List (S106) → List Int → List (S29) → Bool → Bool → List (S106) → List Int → List (S29) → Option (Bool)
  | 0, _, _, _, _, _, _, _, _, _, _, _, _ => none
  | k + 1, x47, x48, x228000, x228001, x228002, x228003, x228004, x229000, x229001, x229002, x229003, x229004 => if x48 < x47 then (if 0 ≤ x48 then (if x48 < (x228003.length : Int) then (if x48 < (x229003.length : Int) then (if (rd x228003 x48) = (rd x229003 x48) then (boscagelaw11_Same.l0 k x47 (wrap64 (x48 + 1)) x228000 x228001 x228002 x228003 x228004 x229000 x229001 x229002 x229003 x229004) else (some false)) else (none)) else (none)) else (none)) else (boscagelaw11_Same.l1 k (x228004.length : Int) 0 x228000 x228001 x228002 x228003 x228004 x229000 x229001 x229002 x229003 x229004)
def boscagelaw11_Same.l1 : Nat → Int → Int → Bool → Bool → List (S106) → List Int → List (S29) → Bool → Bool → List (S106) → List Int → List (S29) → Option (Bool)
  | 0, _, _, _, _, _, _, _, _, _, _, _, _ => none
  | k + 1, x65, x66, x228000, x228001, x228002, x228003, x228004, x229000, x229001, x229002, x229003, x229004 => if x66 < x65 then (if 0 ≤ x66 then (if x66 < (x228004.length : Int) then (if x66 < (x229004.length : Int) then ((boscagelaw11_Same.f k ((rd_T29 x228004 x66).f0) ((rd_T29 x228004 x66).f1) ((rd_T29 x228004 x66).f2) ((rd_T29 x228004 x66).f3) ((rd_T29 x228004 x66).f4) ((rd_T29 x229004 x66).f0) ((rd_T29 x229004 x66).f1) ((rd_T29 x229004 x66).f2) ((rd_T29 x229004 x66).f3) ((rd_T29 x229004 x66).f4)).bind fun t234 => (if t234 = true then (boscagelaw11_Same.l1 k x65 (wrap64 (x66 + 1)) x228000 x228001 x228002 x228003 x228004 x229000 x229001 x229002 x229003 x229004) else (some false))) else (none)) else (none)) else (none)) else (some true)
def boscagelaw11_Same.f : Nat → Bool → Bool → List (S106) → List Int → List (S29) → Bool → Bool → List (S106) → List Int → List (S29) → Option (Bool)
  | 0, _, _, _, _, _, _, _, _, _, _ => none
  | k + 1, a0_0, a0_1, l0_2, l0_3, l0_4, a1_0, a1_1, l1_2, l1_3, l1_4 => if (a0_0 != a1_0) = true then (boscagelaw11_Same.j0 k true a0_0 a0_1 l0_2 l0_3 l0_4 a1_0 a1_1 l1_2 l1_3 l1_4) else (if (a0_1 != a1_1) = true then (boscagelaw11_Same.j0 k true a0_0 a0_1 l0_2 l0_3 l0_4 a1_0 a1_1 l1_2 l1_3 l1_4) else ((boscagelaw02_Same.f k l0_2 l1_2).bind fun t229 => (if t229 = true then (if (l0_3.length : Int) = (l1_3.length : Int) then (boscagelaw11_Same.j0 k ((l0_4.length : Int) != (l1_4.length : Int)) a0_0 a0_1 l0_2 l0_3 l0_4 a1_0 a1_1 l1_2 l1_3 l1_4) else (boscagelaw11_Same.j0 k true a0_0 a0_1 l0_2 l0_3 l0_4 a1_0 a1_1 l1_2 l1_3 l1_4)) else (boscagelaw11_Same.j0 k true a0_0 a0_1 l0_2 l0_3 l0_4 a1_0 a1_1 l1_2 l1_3 l1_4))))
end
theorem boscagelaw11_Same.mono_l : ∀ k, (∀ y0 y1 y2 y3 y4 y5 y6 y7 y8 y9, LeO (boscagelaw11_Same.f k y0 y1 y2 y3 y4 y5 y6 y7 y8 y9) (boscagelaw11_Same.f (k + 1) y0 y1 y2 y3 y4 y5 y6 y7 y8 y9)) ∧ (∀ y0 y1 y2 y3 y4 y5 y6 y7 y8 y9 y10, LeO (boscagelaw11_Same.j0 k y0 y1 y2 y3 y4 y5 y6 y7 y8 y9 y10) (boscagelaw11_Same.j0 (k + 1) y0 y1 y2 y3 y4 y5 y6 y7 y8 y9 y10)) ∧ (∀ y0 y1 y2 y3 y4 y5 y6 y7 y8 y9 y10 y11, LeO (boscagelaw11_Same.l0 k y0 y1 y2 y3 y4 y5 y6 y7 y8 y9 y10 y11) (boscagelaw11_Same.l0 (k + 1) y0 y1 y2 y3 y4 y5 y6 y7 y8 y9 y10 y11)) ∧ (∀ y0 y1 y2 y3 y4 y5 y6 y7 y8 y9 y10 y11, LeO (boscagelaw11_Same.l1 k y0 y1 y2 y3 y4 y5 y6 y7 y8 y9 y10 y11) (boscagelaw11_Same.l1 (k + 1) y0 y1 y2 y3 y4 y5 y6 y7 y8 y9 y10 y11))
  | 0 => ⟨fun _ _ _ _ _ _ _ _ _ _ r h => by simp [boscagelaw11_Same.f] at h, fun _ _ _ _ _ _ _ _ _ _ _ r h => by simp [boscagelaw11_Same.j0] at h, fun _ _ _ _ _ _ _ _ _ _ _ _ r h => by simp [boscagelaw11_Same.l0] at h, fun _ _ _ _ _ _ _ _ _ _ _ _ r h => by simp [boscagelaw11_Same.l1] at h⟩
  | k + 1 => by
    obtain ⟨ih0, ih1, ih2, ih3⟩ := boscagelaw11_Same.mono_l k
    refine ⟨?_, ?_, ?_, ?_⟩
    · intro y0 y1 y2 y3 y4 y5 y6 y7 y8 y9
      unfold boscagelaw11_Same.f
      repeat' first
      | (with_reducible exact ih0 _ _ _ _ _ _ _ _ _ _)
      | (with_reducible exact ih1 _ _ _ _ _ _ _ _ _ _ _)
      | (with_reducible exact ih2 _ _ _ _ _ _ _ _ _ _ _ _)
      | (with_reducible exact ih3 _ _ _ _ _ _ _ _ _ _ _ _)
      | (with_reducible exact boscagelaw02_Same.mono _ _ _)
      | (with_reducible exact LeO.refl _)
      | (with_reducible exact LeO.none _)
      | (with_reducible refine LeO.ite ?_ ?_)
      | (with_reducible refine LeO.bind ?_ (fun _ => ?_))
      | exact ih0 _ _ _ _ _ _ _ _ _ _
      | exact ih1 _ _ _ _ _ _ _ _ _ _ _
      | exact ih2 _ _ _ _ _ _ _ _ _ _ _ _
      | exact ih3 _ _ _ _ _ _ _ _ _ _ _ _
      | exact boscagelaw02_Same.mono _ _ _
      | exact LeO.none _
      | refine LeO.ite ?_ ?_
      | refine LeO.bind ?_ (fun _ => ?_)
    · intro y0 y1 y2 y3 y4 y5 y6 y7 y8 y9 y10
      unfold boscagelaw11_Same.j0
      repeat' first
      | (with_reducible exact ih0 _ _ _ _ _ _ _ _ _ _)
      | (with_reducible exact ih1 _ _ _ _ _ _ _ _ _ _ _)
      | (with_reducible exact ih2 _ _ _ _ _ _ _ _ _ _ _ _)
      | (with_reducible exact ih3 _ _ _ _ _ _ _ _ _ _ _ _)
      | (with_reducible exact boscagelaw02_Same.mono _ _ _)
      | (with_reducible exact LeO.refl _)
      | (with_reducible exact LeO.none _)
      | (with_reducible refine LeO.ite ?_ ?_)
      | (with_reducible refine LeO.bind ?_ (fun _ => ?_))
      | exact ih0 _ _ _ _ _ _ _ _ _ _
      | exact ih1 _ _ _ _ _ _ _ _ _ _ _
      | exact ih2 _ _ _ _ _ _ _ _ _ _ _ _
      | exact ih3 _ _ _ _ _ _ _ _ _ _ _ _
      | exact boscagelaw02_Same.mono _ _ _
      | exact LeO.none _
      | refine LeO.ite ?_ ?_
      | refine LeO.bind ?_ (fun _ => ?_)
    · intro y0 y1 y2 y3 y4 y5 y6 y7 y8 y9 y10 y11
      unfold boscagelaw11_Same.l0
      repeat' first
      | (with_reducible exact ih0 _ _ _ _ _ _ _ _ _ _)
      | (with_reducible exact ih1 _ _ _ _ _ _ _ _ _ _ _)
      | (with_reducible exact ih2 _ _ _ _ _ _ _ _ _ _ _ _)
      | (with_reducible exact ih3 _ _ _ _ _ _ _ _ _ _ _ _)
      | (with_reducible exact boscagelaw02_Same.mono _ _ _)
      | (with_reducible exact LeO.refl _)
      | (with_reducible exact LeO.none _)
      | (with_reducible refine LeO.ite ?_ ?_)
      | (with_reducible refine LeO.bind ?_ (fun _ => ?_))
      | exact ih0 _ _ _ _ _ _ _ _ _ _
      | exact ih1 _ _ _ _ _ _ _ _ _ _ _
      | exact ih2 _ _ _ _ _ _ _ _ _ _ _ _
      | exact ih3 _ _ _ _ _ _ _ _ _ _ _ _
      | exact boscagelaw02_Same.mono _ _ _
      | exact LeO.none _
      | refine LeO.ite ?_ ?_
      | refine LeO.bind ?_ (fun _ => ?_)
    · intro y0 y1 y2 y3 y4 y5 y6 y7 y8 y9 y10 y11
      unfold boscagelaw11_Same.l1
      repeat' first
      | (with_reducible exact ih0 _ _ _ _ _ _ _ _ _ _)
      | (with_reducible exact ih1 _ _ _ _ _ _ _ _ _ _ _)
      | (with_reducible exact ih2 _ _ _ _ _ _ _ _ _ _ _ _)
      | (with_reducible exact ih3 _ _ _ _ _ _ _ _ _ _ _ _)
      | (with_reducible exact boscagelaw02_Same.mono _ _ _)
      | (with_reducible exact LeO.refl _)
      | (with_reducible exact LeO.none _)
      | (with_reducible refine LeO.ite ?_ ?_)
      | (with_reducible refine LeO.bind ?_ (fun _ => ?_))
      | exact ih0 _ _ _ _ _ _ _ _ _ _
      | exact ih1 _ _ _ _ _ _ _ _ _ _ _
      | exact ih2 _ _ _ _ _ _ _ _ _ _ _ _
      | exact ih3 _ _ _ _ _ _ _ _ _ _ _ _
      | exact boscagelaw02_Same.mono _ _ _
      | exact LeO.none _
      | refine LeO.ite ?_ ?_
      | refine LeO.bind ?_ (fun _ => ?_)
theorem boscagelaw11_Same.mono : ∀ a0 a1 a2 a3 a4 a5 a6 a7 a8 a9 k, LeO (boscagelaw11_Same.f k a0 a1 a2 a3 a4 a5 a6 a7 a8 a9) (boscagelaw11_Same.f (k + 1) a0 a1 a2 a3 a4 a5 a6 a7 a8 a9) := by
  intro a0 a1 a2 a3 a4 a5 a6 a7 a8 a9 k
  obtain ⟨ih0, ih1, ih2, ih3⟩ := boscagelaw11_Same.mono_l k
  exact ih0 a0 a1 a2 a3 a4 a5 a6 a7 a8 a9
def boscagelaw11_Same.T6 : Bool × List (List Nat × List Nat) := (true, [([], []), ([0], [0]), ([], []), ([1, 2], [1, 2]), ([3], [3]), ([], []), ([5], [5]), ([], []), ([6, 7], [6, 7]), ([8], [8]), ([4, 9], [4, 9])])
def boscagelaw11_Same.B6 : List Nat := [0, 1, 0, 7, 15, 0, 32, 0, 224, 480, 1023]
theorem boscagelaw11_Same.tab6 : rtab .any (opsOf Tryz.f22 6) = boscagelaw11_Same.T6 := by kernel_rfl
theorem boscagelaw11_Same.bits6 : waitsOk boscagelaw11_Same.T6.2 boscagelaw11_Same.B6 = true := by kernel_rfl
def boscagelaw11_Same.T12 : Bool × List (List Nat × List Nat) := (true, [([], []), ([0], [0]), ([], []), ([1, 2], [1, 2]), ([3], [3]), ([], []), ([5], [5]), ([], []), ([6, 7], [6, 7]), ([8], [8]), ([4, 9], [4, 9]), ([10], [10])])
def boscagelaw11_Same.B12 : List Nat := [0, 1, 0, 7, 15, 0, 32, 0, 224, 480, 1023, 2047]
theorem boscagelaw11_Same.tab12 : rtab .any (opsOf Tryz.f22 12) = boscagelaw11_Same.T12 := by kernel_rfl
theorem boscagelaw11_Same.bits12 : waitsOk boscagelaw11_Same.T12.2 boscagelaw11_Same.B12 = true := by kernel_rfl
set_option maxHeartbeats 8000000 in
set_option maxRecDepth 100000 in
theorem boscagelaw11_Same.calls (k : Nat) : ∀ (a0_0 : Bool) (a0_1 : Bool) (A0_2 : Option Addr) (c0_2 : Nat) (l0_2 : List (S106)) (A0_3 : Option Addr) (c0_3 : Nat) (l0_3 : List Int) (A0_4 : Option Addr) (c0_4 : Nat) (l0_4 : List (S29)) (a1_0 : Bool) (a1_1 : Bool) (A1_2 : Option Addr) (c1_2 : Nat) (l1_2 : List (S106)) (A1_3 : Option Addr) (c1_3 : Nat) (l1_3 : List Int) (A1_4 : Option Addr) (c1_4 : Nat) (l1_4 : List (S29)) (r : Bool) (w : World) (hr0_2 : Kd.C k106 w A0_2 l0_2.length l0_2) (hc0_2 : l0_2.length ≤ c0_2) (hr0_3 : Kd.C (Kd.int .i64) w A0_3 l0_3.length l0_3) (hc0_3 : l0_3.length ≤ c0_3) (hr0_4 : Kd.C k29 w A0_4 l0_4.length l0_4) (hc0_4 : l0_4.length ≤ c0_4) (hr1_2 : Kd.C k106 w A1_2 l1_2.length l1_2) (hc1_2 : l1_2.length ≤ c1_2) (hr1_3 : Kd.C (Kd.int .i64) w A1_3 l1_3.length l1_3) (hc1_3 : l1_3.length ≤ c1_3) (hr1_4 : Kd.C k29 w A1_4 l1_4.length l1_4) (hc1_4 : l1_4.length ≤ c1_4) (h : boscagelaw11_Same.f k a0_0 a0_1 l0_2 l0_3 l0_4 a1_0 a1_1 l1_2 l1_3 l1_4 = some r),
    Calls Tryz.prog 22 #[.agg #[.bool a0_0, .bool a0_1, .slice A0_2 l0_2.length c0_2, .slice A0_3 l0_3.length c0_3, .slice A0_4 l0_4.length c0_4], .agg #[.bool a1_0, .bool a1_1, .slice A1_2 l1_2.length c1_2, .slice A1_3 l1_3.length c1_3, .slice A1_4 l1_4.length c1_4]] w fun e w' => e = .returned (.bool r) ∧ Below w.heap.size w w' := by
  induction k using Nat.strongRecOn with
  | _ k ih =>
  intro a0_0 a0_1 A0_2 c0_2 l0_2 A0_3 c0_3 l0_3 A0_4 c0_4 l0_4 a1_0 a1_1 A1_2 c1_2 l1_2 A1_3 c1_3 l1_3 A1_4 c1_4 l1_4 r w hr0_2 hc0_2 hr0_3 hc0_3 hr0_4 hc0_4 hr1_2 hc1_2 hr1_3 hc1_3 hr1_4 hc1_4 h
  cases k with
  | zero => exact absurd h (by simp [boscagelaw11_Same.f])
  | succ k =>
  simp only [boscagelaw11_Same.f] at h
  have hu29 := Tryz.underlying29
  have HR0_2 := Aside0.mk hr0_2
  have HC0_2 := Aside0.mk hc0_2
  clear hr0_2 hc0_2
  have HR0_3 := Aside0.mk hr0_3
  have HC0_3 := Aside0.mk hc0_3
  clear hr0_3 hc0_3
  have HR0_4 := Aside0.mk hr0_4
  have HC0_4 := Aside0.mk hc0_4
  clear hr0_4 hc0_4
  have HR1_2 := Aside0.mk hr1_2
  have HC1_2 := Aside0.mk hc1_2
  clear hr1_2 hc1_2
  have HR1_3 := Aside0.mk hr1_3
  have HC1_3 := Aside0.mk hc1_3
  clear hr1_3 hc1_3
  have HR1_4 := Aside0.mk hr1_4
  have HC1_4 := Aside0.mk hc1_4
  clear hr1_4 hc1_4
  have HB := Aside0.mk (Below.refl w.heap.size w)
  have H : (if (a0_0 != a1_0) = true then (boscagelaw11_Same.j0 k true a0_0 a0_1 l0_2 l0_3 l0_4 a1_0 a1_1 l1_2 l1_3 l1_4) else (if (a0_1 != a1_1) = true then (boscagelaw11_Same.j0 k true a0_0 a0_1 l0_2 l0_3 l0_4 a1_0 a1_1 l1_2 l1_3 l1_4) else ((boscagelaw02_Same.f k l0_2 l1_2).bind fun t229 => (if t229 = true then (if (l0_3.length : Int) = (l1_3.length : Int) then (boscagelaw11_Same.j0 k ((l0_4.length : Int) != (l1_4.length : Int)) a0_0 a0_1 l0_2 l0_3 l0_4 a1_0 a1_1 l1_2 l1_3 l1_4) else (boscagelaw11_Same.j0 k true a0_0 a0_1 l0_2 l0_3 l0_4 a1_0 a1_1 l1_2 l1_3 l1_4)) else (boscagelaw11_Same.j0 k true a0_0 a0_1 l0_2 l0_3 l0_4 a1_0 a1_1 l1_2 l1_3 l1_4))))) = some r := h
  clear h
  have HC3 := Aside0.mk H
  clear H
  go_enter Tryz.func22, Tryz.ntmps22
  go_upto_region 1 with (first | ((with_reducible refine gate_dst (N := 2) rfl ?_); (try (refine gate_guard (by rfl) ?_; dsimp only)); refine box_event ?hg (N := 2) ?hd (cs := #[.bool a0_0, .bool a0_1, .slice A0_2 l0_2.length c0_2, .slice A0_3 l0_3.length c0_3, .slice A0_4 l0_4.length c0_4]) (t := 29) ?hr ?_; (case hd => rfl); (case hg => rfl); (case hr => first | (go_simp; done) | (go_simp; rfl)); intro gb227 hg w4 hbox hb; have n0_ := Aside0.mk (below_step (by repeat (first | (with_reducible first | exact HB.out | apply below_alloc | apply pw_below_drewN | apply below_drew1) | exact HB.out)) hb); have n1_ := Aside0.mk (hbox); have n2_ := Aside0.mk ((by rw [hg]; exact (below_size (by repeat (first | (with_reducible first | exact HB.out | apply below_alloc | apply pw_below_drewN | apply below_drew1) | exact HB.out))) : w.heap.size ≤ gb227)); have n3_ := Aside0.mk ((by rw [hg]; exact (below_size (by repeat (first | (with_reducible first | exact HB.out | apply below_alloc | apply pw_below_drewN | apply below_drew1) | exact HB.out))) : w.heap.size ≤ gb227)); clear HB; have HB := n0_; have BK227 := n1_; have GW227 := n2_; have GE227 := n3_; clear n0_ n1_ n2_ n3_; clear hb hbox hg) | ((with_reducible refine gate_dst (N := 3) rfl ?_); (try (refine gate_guard (by rfl) ?_; dsimp only)); refine box_event ?hg (N := 3) ?hd (cs := #[.bool a1_0, .bool a1_1, .slice A1_2 l1_2.length c1_2, .slice A1_3 l1_3.length c1_3, .slice A1_4 l1_4.length c1_4]) (t := 29) ?hr ?_; (case hd => rfl); (case hg => rfl); (case hr => first | (go_simp; done) | (go_simp; rfl)); intro gb228 hg w5 hbox hb; have n0_ := Aside0.mk (blk_below (g := gb227) (o := .cells #[.bool a0_0, .bool a0_1, .slice A0_2 l0_2.length c0_2, .slice A0_3 l0_3.length c0_3, .slice A0_4 l0_4.length c0_4] 29 (0, 0)) (by (with_reducible repeat (first | refine blk_drewN ?_ _ | refine blk_drew ?_ | refine blk_alloc ?_ _)); exact BK227.out) hb); have n1_ := Aside0.mk (below_step (by repeat (first | (with_reducible first | exact HB.out | apply below_alloc | apply pw_below_drewN | apply below_drew1 | refine below_set ?_ GE227.out) | exact HB.out)) hb); have n2_ := Aside0.mk (hbox); have n3_ := Aside0.mk ((by rw [hg]; exact (below_size (by repeat (first | (with_reducible first | exact HB.out | apply below_alloc | apply pw_below_drewN | apply below_drew1 | refine below_set ?_ GE227.out) | exact HB.out))) : w.heap.size ≤ gb228)); have n4_ := Aside0.mk ((by rw [hg]; exact (below_size (by repeat (first | (with_reducible first | exact HB.out | apply below_alloc | apply pw_below_drewN | apply below_drew1 | refine below_set ?_ GE227.out) | exact HB.out))) : w.heap.size ≤ gb228)); have n5_ := Aside0.mk ((by rw [hg]; exact Nat.ne_of_lt (blk_lt (g := gb227) (o := .cells #[.bool a0_0, .bool a0_1, .slice A0_2 l0_2.length c0_2, .slice A0_3 l0_3.length c0_3, .slice A0_4 l0_4.length c0_4] 29 (0, 0)) (by (with_reducible repeat (first | refine blk_drewN ?_ _ | refine blk_drew ?_ | refine blk_alloc ?_ _)); exact BK227.out)) : gb227 ≠ gb228)); have n6_ := Aside0.mk ((by rw [hg]; exact Nat.ne_of_gt (blk_lt (g := gb227) (o := .cells #[.bool a0_0, .bool a0_1, .slice A0_2 l0_2.length c0_2, .slice A0_3 l0_3.length c0_3, .slice A0_4 l0_4.length c0_4] 29 (0, 0)) (by (with_reducible repeat (first | refine blk_drewN ?_ _ | refine blk_drew ?_ | refine blk_alloc ?_ _)); exact BK227.out)) : gb228 ≠ gb227)); clear BK227; clear HB; have BK227 := n0_; have HB := n1_; have BK228 := n2_; have GW228 := n3_; have GE228 := n4_; have NB227_228 := n5_; have NB228_227 := n6_; clear n0_ n1_ n2_ n3_ n4_ n5_ n6_; clear hb hbox hg))
  (try simp only [Act.put, u1_, u2_, u3_])
  go_cut [44] (fun v44 wc => ∃ (kq : Nat) (x44_2 : Bool), v44 = .bool x44_2 ∧ Aside0 (boscagelaw11_Same.j0 kq x44_2 a0_0 a0_1 l0_2 l0_3 l0_4 a1_0 a1_1 l1_2 l1_3 l1_4 = some r) ∧ Aside0 (kq ≤ k) ∧ Aside0 (wc.heap[gb227]? = some (.cells #[.bool a0_0, .bool a0_1, (.slice A0_2 l0_2.length c0_2), (.slice A0_3 l0_3.length c0_3), (.slice A0_4 l0_4.length c0_4)] 29 (0, 0))) ∧ Aside0 (wc.heap[gb228]? = some (.cells #[.bool a1_0, .bool a1_1, (.slice A1_2 l1_2.length c1_2), (.slice A1_3 l1_3.length c1_3), (.slice A1_4 l1_4.length c1_4)] 29 (0, 0))) ∧ Aside0 (Below w.heap.size w wc))
  case first =>
    have H := HC3.out
    clear HC3
    by_cases c6 : (a0_0 != a1_0) = true
    · rw [if_pos c6] at H
      have c6b0 : (a0_0 != a1_0) = true := c6
      (try (have c6b1 : decide (a0_0 = a1_0) = false := by simpa using c6))
      (try (have c6b2 : (a0_0 == a1_0) = false := by simpa using c6))
      (try (have c6b3 : ¬ (a0_0 = a1_0) := by simpa using c6))
      clear c6
      (first | rw [c6b0] | (simp only [i64_w, i32_w]; rw [c6b0]) | skip)
      have H' := Aside0.mk H
      clear H
      have hnb7 := NB227_228.out
      have hnc7 := NB228_227.out
      have hcz8_0 : w5.cell? ⟨gb227, 0, none⟩ = some (.bool a0_0) := (blk_cell BK227.out 0).trans rfl
      have hcz8_1 : w5.cell? ⟨gb227, 1, none⟩ = some (.bool a0_1) := (blk_cell BK227.out 1).trans rfl
      have hcz8_2 : w5.cell? ⟨gb227, 2, none⟩ = some (.slice A0_2 l0_2.length c0_2) := (blk_cell BK227.out 2).trans rfl
      have hcz8_3 : w5.cell? ⟨gb227, 3, none⟩ = some (.slice A0_3 l0_3.length c0_3) := (blk_cell BK227.out 3).trans rfl
      have hcz8_4 : w5.cell? ⟨gb227, 4, none⟩ = some (.slice A0_4 l0_4.length c0_4) := (blk_cell BK227.out 4).trans rfl
      have hfz8_0 := blk_frozen BK227.out 0
      have hfz8_1 := blk_frozen BK227.out 1
      have hfz8_2 := blk_frozen BK227.out 2
      have hfz8_3 := blk_frozen BK227.out 3
      have hfz8_4 := blk_frozen BK227.out 4
      have hcz9_0 : w5.cell? ⟨gb228, 0, none⟩ = some (.bool a1_0) := (blk_cell BK228.out 0).trans rfl
      have hcz9_1 : w5.cell? ⟨gb228, 1, none⟩ = some (.bool a1_1) := (blk_cell BK228.out 1).trans rfl
      have hcz9_2 : w5.cell? ⟨gb228, 2, none⟩ = some (.slice A1_2 l1_2.length c1_2) := (blk_cell BK228.out 2).trans rfl
      have hcz9_3 : w5.cell? ⟨gb228, 3, none⟩ = some (.slice A1_3 l1_3.length c1_3) := (blk_cell BK228.out 3).trans rfl
      have hcz9_4 : w5.cell? ⟨gb228, 4, none⟩ = some (.slice A1_4 l1_4.length c1_4) := (blk_cell BK228.out 4).trans rfl
      have hfz9_0 := blk_frozen BK228.out 0
      have hfz9_1 := blk_frozen BK228.out 1
      have hfz9_2 := blk_frozen BK228.out 2
      have hfz9_3 := blk_frozen BK228.out 3
      have hfz9_4 := blk_frozen BK228.out 4
      go_wp2
      go_meet
      case rel => exact ⟨_, (true), (by first | rfl | (simp; done) | (simp [*]; done)), H', ⟨by first | omega | exact Nat.le_refl _⟩, ⟨by (with_reducible repeat (first | refine blk_drewN ?_ _ | refine blk_drew ?_ | refine blk_alloc ?_ _)); exact BK227.out⟩, ⟨by (with_reducible repeat (first | refine blk_drewN ?_ _ | refine blk_drew ?_ | refine blk_alloc ?_ _)); exact BK228.out⟩, ⟨by repeat (first | (with_reducible first | exact HB.out | apply below_alloc | apply pw_below_drewN | apply below_drew1 | refine below_set ?_ GE227.out | refine below_set ?_ GE228.out) | exact HB.out)⟩⟩
    · rw [if_neg c6] at H
      have c6b0 : (a0_0 != a1_0) = false := by simpa using c6
      (try (have c6b1 : decide (a0_0 = a1_0) = true := by simpa using c6))
      (try (have c6b2 : (a0_0 == a1_0) = true := by simpa using c6))
      clear c6
      (first | rw [c6b0] | (simp only [i64_w, i32_w]; rw [c6b0]) | skip)
      by_cases c10 : (a0_1 != a1_1) = true
      · rw [if_pos c10] at H
        have c10b0 : (a0_1 != a1_1) = true := c10
        (try (have c10b1 : decide (a0_1 = a1_1) = false := by simpa using c10))
        (try (have c10b2 : (a0_1 == a1_1) = false := by simpa using c10))
        (try (have c10b3 : ¬ (a0_1 = a1_1) := by simpa using c10))
        clear c10
        have H' := Aside0.mk H
        clear H
        have hnb11 := NB227_228.out
        have hnc11 := NB228_227.out
        have hcz12_0 : w5.cell? ⟨gb227, 0, none⟩ = some (.bool a0_0) := (blk_cell BK227.out 0).trans rfl
        have hcz12_1 : w5.cell? ⟨gb227, 1, none⟩ = some (.bool a0_1) := (blk_cell BK227.out 1).trans rfl
        have hcz12_2 : w5.cell? ⟨gb227, 2, none⟩ = some (.slice A0_2 l0_2.length c0_2) := (blk_cell BK227.out 2).trans rfl
        have hcz12_3 : w5.cell? ⟨gb227, 3, none⟩ = some (.slice A0_3 l0_3.length c0_3) := (blk_cell BK227.out 3).trans rfl
        have hcz12_4 : w5.cell? ⟨gb227, 4, none⟩ = some (.slice A0_4 l0_4.length c0_4) := (blk_cell BK227.out 4).trans rfl
        have hfz12_0 := blk_frozen BK227.out 0
        have hfz12_1 := blk_frozen BK227.out 1
        have hfz12_2 := blk_frozen BK227.out 2
        have hfz12_3 := blk_frozen BK227.out 3
        have hfz12_4 := blk_frozen BK227.out 4
        have hcz13_0 : w5.cell? ⟨gb228, 0, none⟩ = some (.bool a1_0) := (blk_cell BK228.out 0).trans rfl
        have hcz13_1 : w5.cell? ⟨gb228, 1, none⟩ = some (.bool a1_1) := (blk_cell BK228.out 1).trans rfl
        have hcz13_2 : w5.cell? ⟨gb228, 2, none⟩ = some (.slice A1_2 l1_2.length c1_2) := (blk_cell BK228.out 2).trans rfl
        have hcz13_3 : w5.cell? ⟨gb228, 3, none⟩ = some (.slice A1_3 l1_3.length c1_3) := (blk_cell BK228.out 3).trans rfl
        have hcz13_4 : w5.cell? ⟨gb228, 4, none⟩ = some (.slice A1_4 l1_4.length c1_4) := (blk_cell BK228.out 4).trans rfl
        have hfz13_0 := blk_frozen BK228.out 0
        have hfz13_1 := blk_frozen BK228.out 1
        have hfz13_2 := blk_frozen BK228.out 2
        have hfz13_3 := blk_frozen BK228.out 3
        have hfz13_4 := blk_frozen BK228.out 4
        go_wp2
        go_meet
        case rel => exact ⟨_, (true), (by first | rfl | (simp; done) | (simp [*]; done)), H', ⟨by first | omega | exact Nat.le_refl _⟩, ⟨by (with_reducible repeat (first | refine blk_drewN ?_ _ | refine blk_drew ?_ | refine blk_alloc ?_ _)); exact BK227.out⟩, ⟨by (with_reducible repeat (first | refine blk_drewN ?_ _ | refine blk_drew ?_ | refine blk_alloc ?_ _)); exact BK228.out⟩, ⟨by repeat (first | (with_reducible first | exact HB.out | apply below_alloc | apply pw_below_drewN | apply below_drew1 | refine below_set ?_ GE227.out | refine below_set ?_ GE228.out) | exact HB.out)⟩⟩
      · rw [if_neg c10] at H
        have c10b0 : (a0_1 != a1_1) = false := by simpa using c10
        (try (have c10b1 : decide (a0_1 = a1_1) = true := by simpa using c10))
        (try (have c10b2 : (a0_1 == a1_1) = true := by simpa using c10))
        clear c10
        replace H := Option.bind_eq_some_iff.mp H
        obtain ⟨t229, A140, H⟩ := H
        replace H : (if t229 = true then (if (l0_3.length : Int) = (l1_3.length : Int) then (boscagelaw11_Same.j0 k ((l0_4.length : Int) != (l1_4.length : Int)) a0_0 a0_1 l0_2 l0_3 l0_4 a1_0 a1_1 l1_2 l1_3 l1_4) else (boscagelaw11_Same.j0 k true a0_0 a0_1 l0_2 l0_3 l0_4 a1_0 a1_1 l1_2 l1_3 l1_4)) else (boscagelaw11_Same.j0 k true a0_0 a0_1 l0_2 l0_3 l0_4 a1_0 a1_1 l1_2 l1_3 l1_4)) = some r := H
        have A14 := Aside0.mk A140
        clear A140
        by_cases c15 : t229 = true
        · subst c15
          have H1 : (if (l0_3.length : Int) = (l1_3.length : Int) then (boscagelaw11_Same.j0 k ((l0_4.length : Int) != (l1_4.length : Int)) a0_0 a0_1 l0_2 l0_3 l0_4 a1_0 a1_1 l1_2 l1_3 l1_4) else (boscagelaw11_Same.j0 k true a0_0 a0_1 l0_2 l0_3 l0_4 a1_0 a1_1 l1_2 l1_3 l1_4)) = some r := by rw [if_pos rfl] at H; exact H
          clear H
          have H := H1
          clear H1
          by_cases c16 : (l0_3.length : Int) = (l1_3.length : Int)
          · rw [if_pos c16] at H
            have c16b0 : ((l0_3.length : Int) == (l1_3.length : Int)) = true := beq_iff_eq.mpr c16
            have c16b1 : ((l0_3.length : Int) != (l1_3.length : Int)) = false := bne_eq_false_iff_eq.mpr c16
            have c16b2 : (l0_3.length == l1_3.length) = true := by first | simpa using c16 | (simp at c16 ⊢; omega)
            clear c16
            have H' := Aside0.mk H
            clear H
            have hnb17 := NB227_228.out
            have hnc17 := NB228_227.out
            have hcz18_0 : w5.cell? ⟨gb227, 0, none⟩ = some (.bool a0_0) := (blk_cell BK227.out 0).trans rfl
            have hcz18_1 : w5.cell? ⟨gb227, 1, none⟩ = some (.bool a0_1) := (blk_cell BK227.out 1).trans rfl
            have hcz18_2 : w5.cell? ⟨gb227, 2, none⟩ = some (.slice A0_2 l0_2.length c0_2) := (blk_cell BK227.out 2).trans rfl
            have hcz18_3 : w5.cell? ⟨gb227, 3, none⟩ = some (.slice A0_3 l0_3.length c0_3) := (blk_cell BK227.out 3).trans rfl
            have hcz18_4 : w5.cell? ⟨gb227, 4, none⟩ = some (.slice A0_4 l0_4.length c0_4) := (blk_cell BK227.out 4).trans rfl
            have hfz18_0 := blk_frozen BK227.out 0
            have hfz18_1 := blk_frozen BK227.out 1
            have hfz18_2 := blk_frozen BK227.out 2
            have hfz18_3 := blk_frozen BK227.out 3
            have hfz18_4 := blk_frozen BK227.out 4
            have hcz19_0 : w5.cell? ⟨gb228, 0, none⟩ = some (.bool a1_0) := (blk_cell BK228.out 0).trans rfl
            have hcz19_1 : w5.cell? ⟨gb228, 1, none⟩ = some (.bool a1_1) := (blk_cell BK228.out 1).trans rfl
            have hcz19_2 : w5.cell? ⟨gb228, 2, none⟩ = some (.slice A1_2 l1_2.length c1_2) := (blk_cell BK228.out 2).trans rfl
            have hcz19_3 : w5.cell? ⟨gb228, 3, none⟩ = some (.slice A1_3 l1_3.length c1_3) := (blk_cell BK228.out 3).trans rfl
            have hcz19_4 : w5.cell? ⟨gb228, 4, none⟩ = some (.slice A1_4 l1_4.length c1_4) := (blk_cell BK228.out 4).trans rfl
            have hfz19_0 := blk_frozen BK228.out 0
            have hfz19_1 := blk_frozen BK228.out 1
            have hfz19_2 := blk_frozen BK228.out 2
            have hfz19_3 := blk_frozen BK228.out 3
            have hfz19_4 := blk_frozen BK228.out 4
            go_wp2_with (first | (go_at_call 54; (with_reducible refine (boscagelaw02_Same.calls k _ _ l0_2 _ _ l1_2 true _ ?side1 ?side2 ?side3 ?side4 A14.out).mono ?_); (case side1 => repeat (first | exact (Kd.C_below HR0_2.out HB.out) | (with_reducible refine Kd.C_alloc ?_ _) | (with_reducible refine Kd.C_drewN ?_ _) | (with_reducible refine Kd.C_drew ?_))); (case side2 => exact HC0_2.out); (case side3 => repeat (first | exact (Kd.C_below HR1_2.out HB.out) | (with_reducible refine Kd.C_alloc ?_ _) | (with_reducible refine Kd.C_drewN ?_ _) | (with_reducible refine Kd.C_drew ?_))); (case side4 => exact HC1_2.out); rintro e w' ⟨rfl, ⟨nd, rfl⟩⟩))
            go_meet
            case rel => exact ⟨_, (((l0_4.length : Int) != (l1_4.length : Int))), (by first | rfl | (simp; done) | (simp [*]; done)), H', ⟨by first | omega | exact Nat.le_refl _⟩, ⟨by (with_reducible repeat (first | refine blk_drewN ?_ _ | refine blk_drew ?_ | refine blk_alloc ?_ _)); exact BK227.out⟩, ⟨by (with_reducible repeat (first | refine blk_drewN ?_ _ | refine blk_drew ?_ | refine blk_alloc ?_ _)); exact BK228.out⟩, ⟨by repeat (first | (with_reducible first | exact HB.out | apply below_alloc | apply pw_below_drewN | apply below_drew1 | refine below_set ?_ GE227.out | refine below_set ?_ GE228.out) | exact HB.out)⟩⟩
          · rw [if_neg c16] at H
            have c16b0 : ((l0_3.length : Int) == (l1_3.length : Int)) = false := beq_eq_false_iff_ne.mpr c16
            have c16b1 : ((l0_3.length : Int) != (l1_3.length : Int)) = true := bne_iff_ne.mpr c16
            have c16b2 : (l0_3.length == l1_3.length) = false := by first | simpa using c16 | (simp at c16 ⊢; omega)
            have H' := Aside0.mk H
            clear H
            have hnb20 := NB227_228.out
            have hnc20 := NB228_227.out
            have hcz21_0 : w5.cell? ⟨gb227, 0, none⟩ = some (.bool a0_0) := (blk_cell BK227.out 0).trans rfl
            have hcz21_1 : w5.cell? ⟨gb227, 1, none⟩ = some (.bool a0_1) := (blk_cell BK227.out 1).trans rfl
            have hcz21_2 : w5.cell? ⟨gb227, 2, none⟩ = some (.slice A0_2 l0_2.length c0_2) := (blk_cell BK227.out 2).trans rfl
            have hcz21_3 : w5.cell? ⟨gb227, 3, none⟩ = some (.slice A0_3 l0_3.length c0_3) := (blk_cell BK227.out 3).trans rfl
            have hcz21_4 : w5.cell? ⟨gb227, 4, none⟩ = some (.slice A0_4 l0_4.length c0_4) := (blk_cell BK227.out 4).trans rfl
            have hfz21_0 := blk_frozen BK227.out 0
            have hfz21_1 := blk_frozen BK227.out 1
            have hfz21_2 := blk_frozen BK227.out 2
            have hfz21_3 := blk_frozen BK227.out 3
            have hfz21_4 := blk_frozen BK227.out 4
            have hcz22_0 : w5.cell? ⟨gb228, 0, none⟩ = some (.bool a1_0) := (blk_cell BK228.out 0).trans rfl
            have hcz22_1 : w5.cell? ⟨gb228, 1, none⟩ = some (.bool a1_1) := (blk_cell BK228.out 1).trans rfl
            have hcz22_2 : w5.cell? ⟨gb228, 2, none⟩ = some (.slice A1_2 l1_2.length c1_2) := (blk_cell BK228.out 2).trans rfl
            have hcz22_3 : w5.cell? ⟨gb228, 3, none⟩ = some (.slice A1_3 l1_3.length c1_3) := (blk_cell BK228.out 3).trans rfl
            have hcz22_4 : w5.cell? ⟨gb228, 4, none⟩ = some (.slice A1_4 l1_4.length c1_4) := (blk_cell BK228.out 4).trans rfl
            have hfz22_0 := blk_frozen BK228.out 0
            have hfz22_1 := blk_frozen BK228.out 1
            have hfz22_2 := blk_frozen BK228.out 2
            have hfz22_3 := blk_frozen BK228.out 3
            have hfz22_4 := blk_frozen BK228.out 4
            go_wp2_with (first | (go_at_call 54; (with_reducible refine (boscagelaw02_Same.calls k _ _ l0_2 _ _ l1_2 true _ ?side1 ?side2 ?side3 ?side4 A14.out).mono ?_); (case side1 => repeat (first | exact (Kd.C_below HR0_2.out HB.out) | (with_reducible refine Kd.C_alloc ?_ _) | (with_reducible refine Kd.C_drewN ?_ _) | (with_reducible refine Kd.C_drew ?_))); (case side2 => exact HC0_2.out); (case side3 => repeat (first | exact (Kd.C_below HR1_2.out HB.out) | (with_reducible refine Kd.C_alloc ?_ _) | (with_reducible refine Kd.C_drewN ?_ _) | (with_reducible refine Kd.C_drew ?_))); (case side4 => exact HC1_2.out); rintro e w' ⟨rfl, ⟨nd, rfl⟩⟩))
            go_meet
            case rel => exact ⟨_, (true), (by first | rfl | (simp; done) | (simp [*]; done)), H', ⟨by first | omega | exact Nat.le_refl _⟩, ⟨by (with_reducible repeat (first | refine blk_drewN ?_ _ | refine blk_drew ?_ | refine blk_alloc ?_ _)); exact BK227.out⟩, ⟨by (with_reducible repeat (first | refine blk_drewN ?_ _ | refine blk_drew ?_ | refine blk_alloc ?_ _)); exact BK228.out⟩, ⟨by repeat (first | (with_reducible first | exact HB.out | apply below_alloc | apply pw_below_drewN | apply below_drew1 | refine below_set ?_ GE227.out | refine below_set ?_ GE228.out) | exact HB.out)⟩⟩
        · replace c15 := Bool.eq_false_iff.mpr c15
          subst c15
          have H1 : (boscagelaw11_Same.j0 k true a0_0 a0_1 l0_2 l0_3 l0_4 a1_0 a1_1 l1_2 l1_3 l1_4) = some r := by rw [if_neg (show ¬ (false = true) by decide)] at H; exact H
          clear H
          have H := H1
          clear H1
          have H' := Aside0.mk H
          clear H
          have hnb23 := NB227_228.out
          have hnc23 := NB228_227.out
          have hcz24_0 : w5.cell? ⟨gb227, 0, none⟩ = some (.bool a0_0) := (blk_cell BK227.out 0).trans rfl
          have hcz24_1 : w5.cell? ⟨gb227, 1, none⟩ = some (.bool a0_1) := (blk_cell BK227.out 1).trans rfl
          have hcz24_2 : w5.cell? ⟨gb227, 2, none⟩ = some (.slice A0_2 l0_2.length c0_2) := (blk_cell BK227.out 2).trans rfl
          have hcz24_3 : w5.cell? ⟨gb227, 3, none⟩ = some (.slice A0_3 l0_3.length c0_3) := (blk_cell BK227.out 3).trans rfl
          have hcz24_4 : w5.cell? ⟨gb227, 4, none⟩ = some (.slice A0_4 l0_4.length c0_4) := (blk_cell BK227.out 4).trans rfl
          have hfz24_0 := blk_frozen BK227.out 0
          have hfz24_1 := blk_frozen BK227.out 1
          have hfz24_2 := blk_frozen BK227.out 2
          have hfz24_3 := blk_frozen BK227.out 3
          have hfz24_4 := blk_frozen BK227.out 4
          have hcz25_0 : w5.cell? ⟨gb228, 0, none⟩ = some (.bool a1_0) := (blk_cell BK228.out 0).trans rfl
          have hcz25_1 : w5.cell? ⟨gb228, 1, none⟩ = some (.bool a1_1) := (blk_cell BK228.out 1).trans rfl
          have hcz25_2 : w5.cell? ⟨gb228, 2, none⟩ = some (.slice A1_2 l1_2.length c1_2) := (blk_cell BK228.out 2).trans rfl
          have hcz25_3 : w5.cell? ⟨gb228, 3, none⟩ = some (.slice A1_3 l1_3.length c1_3) := (blk_cell BK228.out 3).trans rfl
          have hcz25_4 : w5.cell? ⟨gb228, 4, none⟩ = some (.slice A1_4 l1_4.length c1_4) := (blk_cell BK228.out 4).trans rfl
          have hfz25_0 := blk_frozen BK228.out 0
          have hfz25_1 := blk_frozen BK228.out 1
          have hfz25_2 := blk_frozen BK228.out 2
          have hfz25_3 := blk_frozen BK228.out 3
          have hfz25_4 := blk_frozen BK228.out 4
          go_wp2_with (first | (go_at_call 54; (with_reducible refine (boscagelaw02_Same.calls k _ _ l0_2 _ _ l1_2 false _ ?side1 ?side2 ?side3 ?side4 A14.out).mono ?_); (case side1 => repeat (first | exact (Kd.C_below HR0_2.out HB.out) | (with_reducible refine Kd.C_alloc ?_ _) | (with_reducible refine Kd.C_drewN ?_ _) | (with_reducible refine Kd.C_drew ?_))); (case side2 => exact HC0_2.out); (case side3 => repeat (first | exact (Kd.C_below HR1_2.out HB.out) | (with_reducible refine Kd.C_alloc ?_ _) | (with_reducible refine Kd.C_drewN ?_ _) | (with_reducible refine Kd.C_drew ?_))); (case side4 => exact HC1_2.out); rintro e w' ⟨rfl, ⟨nd, rfl⟩⟩))
          go_meet
          case rel => exact ⟨_, (true), (by first | rfl | (simp; done) | (simp [*]; done)), H', ⟨by first | omega | exact Nat.le_refl _⟩, ⟨by (with_reducible repeat (first | refine blk_drewN ?_ _ | refine blk_drew ?_ | refine blk_alloc ?_ _)); exact BK227.out⟩, ⟨by (with_reducible repeat (first | refine blk_drewN ?_ _ | refine blk_drew ?_ | refine blk_alloc ?_ _)); exact BK228.out⟩, ⟨by repeat (first | (with_reducible first | exact HB.out | apply below_alloc | apply pw_below_drewN | apply below_drew1 | refine below_set ?_ GE227.out | refine below_set ?_ GE228.out) | exact HB.out)⟩⟩
  case rest =>
    clear HC3
    try clear c1
    try clear c2
    try clear p2
    try clear c6
    try clear c6b0
    try clear c6b1
    try clear c6b2
    try clear c7
    try clear c10
    try clear c10b0
    try clear c10b1
    try clear c10b2
    try clear c11
    try clear c15
    try clear c16
    try clear c16b0
    try clear c16b1
    try clear c16b2
    try clear c17
    try clear c20
    try clear c22
    try clear c23
    try clear hcz12_0
    try clear hcz12_1
    try clear hcz12_2
    try clear hcz12_3
    try clear hcz12_4
    try clear hcz13_0
    try clear hcz13_1
    try clear hcz13_2
    try clear hcz13_3
    try clear hcz13_4
    try clear hcz18_0
    try clear hcz18_1
    try clear hcz18_2
    try clear hcz18_3
    try clear hcz18_4
    try clear hcz19_0
    try clear hcz19_1
    try clear hcz19_2
    try clear hcz19_3
    try clear hcz19_4
    try clear hcz21_0
    try clear hcz21_1
    try clear hcz21_2
    try clear hcz21_3
    try clear hcz21_4
    try clear hcz22_0
    try clear hcz22_1
    try clear hcz22_2
    try clear hcz22_3
    try clear hcz22_4
    try clear hcz24_0
    try clear hcz24_1
    try clear hcz24_2
    try clear hcz24_3
    try clear hcz24_4
    try clear hcz25_0
    try clear hcz25_1
    try clear hcz25_2
    try clear hcz25_3
    try clear hcz25_4
    try clear hcz8_0
    try clear hcz8_1
    try clear hcz8_2
    try clear hcz8_3
    try clear hcz8_4
    try clear hcz9_0
    try clear hcz9_1
    try clear hcz9_2
    try clear hcz9_3
    try clear hcz9_4
    try clear hfz12_0
    try clear hfz12_1
    try clear hfz12_2
    try clear hfz12_3
    try clear hfz12_4
    try clear hfz13_0
    try clear hfz13_1
    try clear hfz13_2
    try clear hfz13_3
    try clear hfz13_4
    try clear hfz18_0
    try clear hfz18_1
    try clear hfz18_2
    try clear hfz18_3
    try clear hfz18_4
    try clear hfz19_0
    try clear hfz19_1
    try clear hfz19_2
    try clear hfz19_3
    try clear hfz19_4
    try clear hfz21_0
    try clear hfz21_1
    try clear hfz21_2
    try clear hfz21_3
    try clear hfz21_4
    try clear hfz22_0
    try clear hfz22_1
    try clear hfz22_2
    try clear hfz22_3
    try clear hfz22_4
    try clear hfz24_0
    try clear hfz24_1
    try clear hfz24_2
    try clear hfz24_3
    try clear hfz24_4
    try clear hfz25_0
    try clear hfz25_1
    try clear hfz25_2
    try clear hfz25_3
    try clear hfz25_4
    try clear hfz8_0
    try clear hfz8_1
    try clear hfz8_2
    try clear hfz8_3
    try clear hfz8_4
    try clear hfz9_0
    try clear hfz9_1
    try clear hfz9_2
    try clear hfz9_3
    try clear hfz9_4
    obtain ⟨kq, x44_2, rfl, HA, HJ2, BK227, BK228, HB⟩ := hcut
    cases kq with
    | zero => exact absurd HA.out (by simp [boscagelaw11_Same.j0])
    | succ kj2 =>
      have H := HA.out
      clear HA
      simp only [boscagelaw11_Same.j0] at H
      by_cases c26 : x44_2 = true
      · subst c26
        have H1 : (some false) = some r := by rw [if_pos rfl] at H; exact H
        clear H
        have H := H1
        clear H1
        obtain rfl := Option.some.inj H
        go_wp2
        go_ret
        exact ⟨by first | rfl | (simp [errW_none, errW_some] <;> rfl) | (simp [*, errW_none, errW_some] <;> rfl), by repeat (first | (with_reducible first | exact HB.out | apply below_alloc | apply pw_below_drewN | apply below_drew1 | refine below_set ?_ GE227.out | refine below_set ?_ GE228.out) | exact HB.out)⟩
      · replace c26 := Bool.eq_false_iff.mpr c26
        subst c26
        have H1 : (boscagelaw11_Same.l0 kj2 (l0_3.length : Int) 0 a0_0 a0_1 l0_2 l0_3 l0_4 a1_0 a1_1 l1_2 l1_3 l1_4) = some r := by rw [if_neg (show ¬ (false = true) by decide)] at H; exact H
        clear H
        have H := H1
        clear H1
        have H' := Aside0.mk H
        clear H
        have hnb27 := NB227_228.out
        have hnc27 := NB228_227.out
        have hcz28_0 : wc.cell? ⟨gb227, 0, none⟩ = some (.bool a0_0) := (blk_cell BK227.out 0).trans rfl
        have hcz28_1 : wc.cell? ⟨gb227, 1, none⟩ = some (.bool a0_1) := (blk_cell BK227.out 1).trans rfl
        have hcz28_2 : wc.cell? ⟨gb227, 2, none⟩ = some (.slice A0_2 l0_2.length c0_2) := (blk_cell BK227.out 2).trans rfl
        have hcz28_3 : wc.cell? ⟨gb227, 3, none⟩ = some (.slice A0_3 l0_3.length c0_3) := (blk_cell BK227.out 3).trans rfl
        have hcz28_4 : wc.cell? ⟨gb227, 4, none⟩ = some (.slice A0_4 l0_4.length c0_4) := (blk_cell BK227.out 4).trans rfl
        have hfz28_0 := blk_frozen BK227.out 0
        have hfz28_1 := blk_frozen BK227.out 1
        have hfz28_2 := blk_frozen BK227.out 2
        have hfz28_3 := blk_frozen BK227.out 3
        have hfz28_4 := blk_frozen BK227.out 4
        go_wp2
        go_loopg [48] kj2 (fun kq v48 w' => ∃ (x48_2 : Int), v48 = .int .i64 x48_2 ∧ Aside0 (boscagelaw11_Same.l0 kq (l0_3.length : Int) x48_2 a0_0 a0_1 l0_2 l0_3 l0_4 a1_0 a1_1 l1_2 l1_3 l1_4 = some r) ∧ Aside0 (kq ≤ kj2) ∧ Aside0 (w'.heap[gb227]? = some (.cells #[.bool a0_0, .bool a0_1, (.slice A0_2 l0_2.length c0_2), (.slice A0_3 l0_3.length c0_3), (.slice A0_4 l0_4.length c0_4)] 29 (0, 0))) ∧ Aside0 (w'.heap[gb228]? = some (.cells #[.bool a1_0, .bool a1_1, (.slice A1_2 l1_2.length c1_2), (.slice A1_3 l1_3.length c1_3), (.slice A1_4 l1_4.length c1_4)] 29 (0, 0))) ∧ Aside0 (Below w.heap.size w w'))
        case atStart => exact ⟨(0), (by first | rfl | (simp; done) | (simp [*]; done)), H', ⟨Nat.le_refl _⟩, ⟨by (with_reducible repeat (first | refine blk_drewN ?_ _ | refine blk_drew ?_ | refine blk_alloc ?_ _)); exact BK227.out⟩, ⟨by (with_reducible repeat (first | refine blk_drewN ?_ _ | refine blk_drew ?_ | refine blk_alloc ?_ _)); exact BK228.out⟩, ⟨by repeat (first | (with_reducible first | exact HB.out | apply below_alloc | apply pw_below_drewN | apply below_drew1 | refine below_set ?_ GE227.out | refine below_set ?_ GE228.out) | exact HB.out)⟩⟩
        case round =>
          clear H'
          try clear c1
          try clear c2
          try clear p2
          try clear c6
          try clear c6b0
          try clear c6b1
          try clear c6b2
          try clear c7
          try clear c10
          try clear c10b0
          try clear c10b1
          try clear c10b2
          try clear c11
          try clear c15
          try clear c16
          try clear c16b0
          try clear c16b1
          try clear c16b2
          try clear c17
          try clear c20
          try clear c22
          try clear c23
          try clear c26
          try clear c27
          try clear hcz12_0
          try clear hcz12_1
          try clear hcz12_2
          try clear hcz12_3
          try clear hcz12_4
          try clear hcz13_0
          try clear hcz13_1
          try clear hcz13_2
          try clear hcz13_3
          try clear hcz13_4
          try clear hcz18_0
          try clear hcz18_1
          try clear hcz18_2
          try clear hcz18_3
          try clear hcz18_4
          try clear hcz19_0
          try clear hcz19_1
          try clear hcz19_2
          try clear hcz19_3
          try clear hcz19_4
          try clear hcz21_0
          try clear hcz21_1
          try clear hcz21_2
          try clear hcz21_3
          try clear hcz21_4
          try clear hcz22_0
          try clear hcz22_1
          try clear hcz22_2
          try clear hcz22_3
          try clear hcz22_4
          try clear hcz24_0
          try clear hcz24_1
          try clear hcz24_2
          try clear hcz24_3
          try clear hcz24_4
          try clear hcz25_0
          try clear hcz25_1
          try clear hcz25_2
          try clear hcz25_3
          try clear hcz25_4
          try clear hcz28_0
          try clear hcz28_1
          try clear hcz28_2
          try clear hcz28_3
          try clear hcz28_4
          try clear hcz8_0
          try clear hcz8_1
          try clear hcz8_2
          try clear hcz8_3
          try clear hcz8_4
          try clear hcz9_0
          try clear hcz9_1
          try clear hcz9_2
          try clear hcz9_3
          try clear hcz9_4
          try clear hfz12_0
          try clear hfz12_1
          try clear hfz12_2
          try clear hfz12_3
          try clear hfz12_4
          try clear hfz13_0
          try clear hfz13_1
          try clear hfz13_2
          try clear hfz13_3
          try clear hfz13_4
          try clear hfz18_0
          try clear hfz18_1
          try clear hfz18_2
          try clear hfz18_3
          try clear hfz18_4
          try clear hfz19_0
          try clear hfz19_1
          try clear hfz19_2
          try clear hfz19_3
          try clear hfz19_4
          try clear hfz21_0
          try clear hfz21_1
          try clear hfz21_2
          try clear hfz21_3
          try clear hfz21_4
          try clear hfz22_0
          try clear hfz22_1
          try clear hfz22_2
          try clear hfz22_3
          try clear hfz22_4
          try clear hfz24_0
          try clear hfz24_1
          try clear hfz24_2
          try clear hfz24_3
          try clear hfz24_4
          try clear hfz25_0
          try clear hfz25_1
          try clear hfz25_2
          try clear hfz25_3
          try clear hfz25_4
          try clear hfz28_0
          try clear hfz28_1
          try clear hfz28_2
          try clear hfz28_3
          try clear hfz28_4
          try clear hfz8_0
          try clear hfz8_1
          try clear hfz8_2
          try clear hfz8_3
          try clear hfz8_4
          try clear hfz9_0
          try clear hfz9_1
          try clear hfz9_2
          try clear hfz9_3
          try clear hfz9_4
          try clear p2
          obtain ⟨x48_2, rfl, HA, HK2, BK227, BK228, HB⟩ := hrel
          cases gk with
          | zero => exact absurd HA.out (by simp [boscagelaw11_Same.l0])
          | succ k2 =>
            have H := HA.out
            clear HA
            simp only [boscagelaw11_Same.l0] at H
            by_cases c29 : x48_2 < (l0_3.length : Int)
            · rw [if_pos c29] at H
              have c29b0 : decide (x48_2 < (l0_3.length : Int)) = true := decide_eq_true c29
              clear c29
              by_cases c30 : 0 ≤ x48_2
              · rw [if_pos c30] at H
                have c30b0 : decide (0 ≤ x48_2) = true := decide_eq_true c30
                clear c30
                by_cases c31 : x48_2 < (l0_3.length : Int)
                · rw [if_pos c31] at H
                  have c31b0 : decide (x48_2 < (l0_3.length : Int)) = true := decide_eq_true c31
                  clear c31
                  by_cases c32 : x48_2 < (l1_3.length : Int)
                  · rw [if_pos c32] at H
                    have c32b0 : decide (x48_2 < (l1_3.length : Int)) = true := decide_eq_true c32
                    clear c32
                    by_cases c33 : (rd l0_3 x48_2) = (rd l1_3 x48_2)
                    · rw [if_pos c33] at H
                      have c33b0 : ((rd l0_3 x48_2) == (rd l1_3 x48_2)) = true := beq_iff_eq.mpr c33
                      have c33b1 : ((rd l0_3 x48_2) != (rd l1_3 x48_2)) = false := bne_eq_false_iff_eq.mpr c33
                      clear c33
                      have H' := Aside0.mk H
                      clear H
                      try go_wp2
                      have n0_ := Aside0.mk (blk_drew BK227.out)
                      have n1_ := Aside0.mk (blk_drew BK228.out)
                      have n2_ := Aside0.mk (below_drew1 HB.out)
                      clear BK227
                      clear BK228
                      clear HB
                      have BK227 := n0_
                      have BK228 := n1_
                      have HB := n2_
                      clear n0_ n1_ n2_
                      have p230 : 0 ≤ (x48_2 : Int) := of_decide_eq_true (by first | (with_reducible assumption) | assumption)
                      have q230 : x48_2 < (l0_3.length : Int) := of_decide_eq_true (by first | (with_reducible assumption) | assumption)
                      obtain ⟨ad230, e230, hx230_0⟩ := Kd.at_int HR0_3.out x48_2 p230 q230
                      have hw230_0 := hx230_0
                      cases e230
                      replace hx230_0 := (HB.out.cell (World.block_lt_of_cell? w _ hx230_0)).trans hx230_0
                      replace p230 := eq_true p230
                      replace q230 := eq_true q230
                      have p231 : 0 ≤ (x48_2 : Int) := of_decide_eq_true (by first | (with_reducible assumption) | assumption)
                      have q231 : x48_2 < (l1_3.length : Int) := of_decide_eq_true (by first | (with_reducible assumption) | assumption)
                      obtain ⟨ad231, e231, hx231_0⟩ := Kd.at_int HR1_3.out x48_2 p231 q231
                      have hw231_0 := hx231_0
                      cases e231
                      replace hx231_0 := (HB.out.cell (World.block_lt_of_cell? w _ hx231_0)).trans hx231_0
                      replace p231 := eq_true p231
                      replace q231 := eq_true q231
                      refine start_ (n := 11) (S := fun w' => w'.cell? ⟨gb227, 0, none⟩ = some (.bool a0_0) ∧ w'.cell? ⟨gb227, 1, none⟩ = some (.bool a0_1) ∧ w'.cell? ⟨gb227, 2, none⟩ = some (.slice A0_2 l0_2.length c0_2) ∧ w'.cell? ⟨gb227, 3, none⟩ = some (.slice (some ad230) l0_3.length c0_3) ∧ w'.cell? ⟨gb227, 4, none⟩ = some (.slice A0_4 l0_4.length c0_4) ∧ w'.cell? ⟨gb228, 0, none⟩ = some (.bool a1_0) ∧ w'.cell? ⟨gb228, 1, none⟩ = some (.bool a1_1) ∧ w'.cell? ⟨gb228, 2, none⟩ = some (.slice A1_2 l1_2.length c1_2) ∧ w'.cell? ⟨gb228, 3, none⟩ = some (.slice (some ad231) l1_3.length c1_3) ∧ w'.cell? ⟨gb228, 4, none⟩ = some (.slice A1_4 l1_4.length c1_4) ∧ w'.cell? (ad230.add (x48_2).toNat) = some (.int .i64 (rd l0_3 x48_2)) ∧ w'.cell? (ad231.add (x48_2).toNat) = some (.int .i64 (rd l1_3 x48_2))) (ds := []) #[N_,N_,N_,N_,N_,N_,N_,N_,N_,N_,N_] (by kernel_rfl) rfl rfl ⟨(blk_cell BK227.out 0).trans rfl, (blk_cell BK227.out 1).trans rfl, (blk_cell BK227.out 2).trans rfl, (blk_cell BK227.out 3).trans rfl, (blk_cell BK227.out 4).trans rfl, (blk_cell BK228.out 0).trans rfl, (blk_cell BK228.out 1).trans rfl, (blk_cell BK228.out 2).trans rfl, (blk_cell BK228.out 3).trans rfl, (blk_cell BK228.out 4).trans rfl, ((HB.out.cell (World.block_lt_of_cell? w _ hw230_0)).trans hw230_0), ((HB.out.cell (World.block_lt_of_cell? w _ hw231_0)).trans hw231_0)⟩ (fun hHeld => ?_); refine with_tabW boscagelaw11_Same.tab6 boscagelaw11_Same.bits6 (fun HT_ HW_ => ?_)
                      generalize wr.drew = w34 at BK227 BK228 HB hx230_0 hx231_0 hHeld ⊢
                      refine pure_ (i := 0) (N := some 51) (v := ?_) (a' := ?_) #[Y_,N_,N_,N_,N_,N_,N_,N_,N_,N_,N_] rfl rfl (any_of HT_.out (by kernel_rfl)) (fun _ _ _ h => h) (Or.inl ⟨by rfl, ?_⟩) ?_ ?_
                      rotate_left; · intro w'; go_simp; with_reducible rfl
                      rotate_left; · simp only [Act.put, u1_, u2_, u3_, i64_w, i32_w]; rfl
                      refine pure_ (i := 2) (N := some 53) (v := ?_) (a' := ?_) #[Y_,N_,Y_,N_,N_,N_,N_,N_,N_,N_,N_] rfl rfl (any_of HT_.out (by kernel_rfl)) (fun _ _ _ h => h) (Or.inl ⟨by rfl, ?_⟩) ?_ ?_
                      rotate_left; · intro w'; go_simp; with_reducible rfl
                      rotate_left; · simp only [Act.put, u1_, u2_, u3_, i64_w, i32_w]; rfl
                      refine pure_ (i := 5) (N := some 56) (v := ?_) (a' := ?_) #[Y_,N_,Y_,N_,N_,Y_,N_,N_,N_,N_,N_] rfl rfl (any_of HT_.out (by kernel_rfl)) (fun _ _ _ h => h) (Or.inl ⟨by rfl, ?_⟩) ?_ ?_
                      rotate_left; · intro w'; go_simp; with_reducible rfl
                      rotate_left; · simp only [Act.put, u1_, u2_, u3_, i64_w, i32_w]; rfl
                      refine pure_ (i := 7) (N := some 58) (v := ?_) (a' := ?_) #[Y_,N_,Y_,N_,N_,Y_,N_,Y_,N_,N_,N_] rfl rfl (any_of HT_.out (by kernel_rfl)) (fun _ _ _ h => h) (Or.inl ⟨by rfl, ?_⟩) ?_ ?_
                      rotate_left; · intro w'; go_simp; with_reducible rfl
                      rotate_left; · simp only [Act.put, u1_, u2_, u3_, i64_w, i32_w]; rfl
                      refine take_ (i := 1) (N := some 52) (v := ?_) (a' := ?_) #[Y_,Y_,Y_,N_,N_,Y_,N_,Y_,N_,N_,N_] rfl rfl (take_ofW HT_.out HW_.out (by kernel_rfl)) (fun _ _ _ h => h) (Or.inl ⟨by rfl, ?_⟩) hHeld ?_ ?_
                      rotate_left; · rintro w' ⟨s0, s1, s2, s3, s4, s5, s6, s7, s8, s9, s10, s11⟩; go_simp; with_reducible rfl
                      rotate_left; · simp only [Act.put, u1_, u2_, u3_, i64_w, i32_w]; rfl
                      refine pure_ (i := 3) (N := some 54) (v := ?_) (a' := ?_) #[Y_,Y_,Y_,Y_,N_,Y_,N_,Y_,N_,N_,N_] rfl rfl (any_of HT_.out (by kernel_rfl)) (fun _ _ _ h => h) (Or.inl ⟨by rfl, ?_⟩) ?_ ?_
                      rotate_left; · intro w'; go_simp; with_reducible rfl
                      rotate_left; · simp only [Act.put, u1_, u2_, u3_, i64_w, i32_w]; rfl
                      refine take_ (i := 4) (N := some 55) (v := ?_) (a' := ?_) #[Y_,Y_,Y_,Y_,Y_,Y_,N_,Y_,N_,N_,N_] rfl rfl (take_ofW HT_.out HW_.out (by kernel_rfl)) (fun _ _ _ h => h) (Or.inl ⟨by rfl, ?_⟩) hHeld ?_ ?_
                      rotate_left; · rintro w' ⟨s0, s1, s2, s3, s4, s5, s6, s7, s8, s9, s10, s11⟩; go_simp; with_reducible rfl
                      rotate_left; · simp only [Act.put, u1_, u2_, u3_, i64_w, i32_w]; rfl
                      refine take_ (i := 6) (N := some 57) (v := ?_) (a' := ?_) #[Y_,Y_,Y_,Y_,Y_,Y_,Y_,Y_,N_,N_,N_] rfl rfl (take_ofW HT_.out HW_.out (by kernel_rfl)) (fun _ _ _ h => h) (Or.inl ⟨by rfl, ?_⟩) hHeld ?_ ?_
                      rotate_left; · rintro w' ⟨s0, s1, s2, s3, s4, s5, s6, s7, s8, s9, s10, s11⟩; go_simp; with_reducible rfl
                      rotate_left; · simp only [Act.put, u1_, u2_, u3_, i64_w, i32_w]; rfl
                      refine pure_ (i := 8) (N := some 59) (v := ?_) (a' := ?_) #[Y_,Y_,Y_,Y_,Y_,Y_,Y_,Y_,Y_,N_,N_] rfl rfl (any_of HT_.out (by kernel_rfl)) (fun _ _ _ h => h) (Or.inl ⟨by rfl, ?_⟩) ?_ ?_
                      rotate_left; · intro w'; go_simp; with_reducible rfl
                      rotate_left; · simp only [Act.put, u1_, u2_, u3_, i64_w, i32_w]; rfl
                      refine take_ (i := 9) (N := some 60) (v := ?_) (a' := ?_) #[Y_,Y_,Y_,Y_,Y_,Y_,Y_,Y_,Y_,Y_,N_] rfl rfl (take_ofW HT_.out HW_.out (by kernel_rfl)) (fun _ _ _ h => h) (Or.inl ⟨by rfl, ?_⟩) hHeld ?_ ?_
                      rotate_left; · rintro w' ⟨s0, s1, s2, s3, s4, s5, s6, s7, s8, s9, s10, s11⟩; go_simp; with_reducible rfl
                      rotate_left; · simp only [Act.put, u1_, u2_, u3_, i64_w, i32_w]; rfl
                      refine pure_ (i := 10) (N := some 61) (v := ?_) (a' := ?_) #[Y_,Y_,Y_,Y_,Y_,Y_,Y_,Y_,Y_,Y_,Y_] rfl rfl (any_of HT_.out (by kernel_rfl)) (fun _ _ _ h => h) (Or.inl ⟨by rfl, ?_⟩) ?_ ?_
                      rotate_left; · intro w'; go_simp; with_reducible rfl
                      rotate_left; · simp only [Act.put, u1_, u2_, u3_, i64_w, i32_w]; rfl
                      refine done_ (done_of HT_.out (by kernel_rfl)) ?_
                      try go_wp2
                      go_roundg k2
                      case measure => have := HJ2.out; have := HK2.out; omega
                      case rel => exact ⟨(wrap64 (x48_2 + 1)), (by first | rfl | (simp; done) | (simp [*]; done)), H', ⟨by have := HJ2.out; have := HK2.out; omega⟩, ⟨by (with_reducible repeat (first | refine blk_drewN ?_ _ | refine blk_drew ?_ | refine blk_alloc ?_ _)); exact BK227.out⟩, ⟨by (with_reducible repeat (first | refine blk_drewN ?_ _ | refine blk_drew ?_ | refine blk_alloc ?_ _)); exact BK228.out⟩, ⟨by repeat (first | (with_reducible first | exact HB.out | apply below_alloc | apply pw_below_drewN | apply below_drew1 | refine below_set ?_ GE227.out | refine below_set ?_ GE228.out) | exact HB.out)⟩⟩
                    · rw [if_neg c33] at H
                      have c33b0 : ((rd l0_3 x48_2) == (rd l1_3 x48_2)) = false := beq_eq_false_iff_ne.mpr c33
                      have c33b1 : ((rd l0_3 x48_2) != (rd l1_3 x48_2)) = true := bne_iff_ne.mpr c33
                      obtain rfl := Option.some.inj H
                      try go_wp2
                      have n0_ := Aside0.mk (blk_drew BK227.out)
                      have n1_ := Aside0.mk (blk_drew BK228.out)
                      have n2_ := Aside0.mk (below_drew1 HB.out)
                      clear BK227
                      clear BK228
                      clear HB
                      have BK227 := n0_
                      have BK228 := n1_
                      have HB := n2_
                      clear n0_ n1_ n2_
                      have p230 : 0 ≤ (x48_2 : Int) := of_decide_eq_true (by first | (with_reducible assumption) | assumption)
                      have q230 : x48_2 < (l0_3.length : Int) := of_decide_eq_true (by first | (with_reducible assumption) | assumption)
                      obtain ⟨ad230, e230, hx230_0⟩ := Kd.at_int HR0_3.out x48_2 p230 q230
                      have hw230_0 := hx230_0
                      cases e230
                      replace hx230_0 := (HB.out.cell (World.block_lt_of_cell? w _ hx230_0)).trans hx230_0
                      replace p230 := eq_true p230
                      replace q230 := eq_true q230
                      have p231 : 0 ≤ (x48_2 : Int) := of_decide_eq_true (by first | (with_reducible assumption) | assumption)
                      have q231 : x48_2 < (l1_3.length : Int) := of_decide_eq_true (by first | (with_reducible assumption) | assumption)
                      obtain ⟨ad231, e231, hx231_0⟩ := Kd.at_int HR1_3.out x48_2 p231 q231
                      have hw231_0 := hx231_0
                      cases e231
                      replace hx231_0 := (HB.out.cell (World.block_lt_of_cell? w _ hx231_0)).trans hx231_0
                      replace p231 := eq_true p231
                      replace q231 := eq_true q231
                      refine start_ (n := 11) (S := fun w' => w'.cell? ⟨gb227, 0, none⟩ = some (.bool a0_0) ∧ w'.cell? ⟨gb227, 1, none⟩ = some (.bool a0_1) ∧ w'.cell? ⟨gb227, 2, none⟩ = some (.slice A0_2 l0_2.length c0_2) ∧ w'.cell? ⟨gb227, 3, none⟩ = some (.slice (some ad230) l0_3.length c0_3) ∧ w'.cell? ⟨gb227, 4, none⟩ = some (.slice A0_4 l0_4.length c0_4) ∧ w'.cell? ⟨gb228, 0, none⟩ = some (.bool a1_0) ∧ w'.cell? ⟨gb228, 1, none⟩ = some (.bool a1_1) ∧ w'.cell? ⟨gb228, 2, none⟩ = some (.slice A1_2 l1_2.length c1_2) ∧ w'.cell? ⟨gb228, 3, none⟩ = some (.slice (some ad231) l1_3.length c1_3) ∧ w'.cell? ⟨gb228, 4, none⟩ = some (.slice A1_4 l1_4.length c1_4) ∧ w'.cell? (ad230.add (x48_2).toNat) = some (.int .i64 (rd l0_3 x48_2)) ∧ w'.cell? (ad231.add (x48_2).toNat) = some (.int .i64 (rd l1_3 x48_2))) (ds := []) #[N_,N_,N_,N_,N_,N_,N_,N_,N_,N_,N_] (by kernel_rfl) rfl rfl ⟨(blk_cell BK227.out 0).trans rfl, (blk_cell BK227.out 1).trans rfl, (blk_cell BK227.out 2).trans rfl, (blk_cell BK227.out 3).trans rfl, (blk_cell BK227.out 4).trans rfl, (blk_cell BK228.out 0).trans rfl, (blk_cell BK228.out 1).trans rfl, (blk_cell BK228.out 2).trans rfl, (blk_cell BK228.out 3).trans rfl, (blk_cell BK228.out 4).trans rfl, ((HB.out.cell (World.block_lt_of_cell? w _ hw230_0)).trans hw230_0), ((HB.out.cell (World.block_lt_of_cell? w _ hw231_0)).trans hw231_0)⟩ (fun hHeld => ?_); refine with_tabW boscagelaw11_Same.tab6 boscagelaw11_Same.bits6 (fun HT_ HW_ => ?_)
                      generalize wr.drew = w35 at BK227 BK228 HB hx230_0 hx231_0 hHeld ⊢
                      refine pure_ (i := 0) (N := some 51) (v := ?_) (a' := ?_) #[Y_,N_,N_,N_,N_,N_,N_,N_,N_,N_,N_] rfl rfl (any_of HT_.out (by kernel_rfl)) (fun _ _ _ h => h) (Or.inl ⟨by rfl, ?_⟩) ?_ ?_
                      rotate_left; · intro w'; go_simp; with_reducible rfl
                      rotate_left; · simp only [Act.put, u1_, u2_, u3_, i64_w, i32_w]; rfl
                      refine pure_ (i := 2) (N := some 53) (v := ?_) (a' := ?_) #[Y_,N_,Y_,N_,N_,N_,N_,N_,N_,N_,N_] rfl rfl (any_of HT_.out (by kernel_rfl)) (fun _ _ _ h => h) (Or.inl ⟨by rfl, ?_⟩) ?_ ?_
                      rotate_left; · intro w'; go_simp; with_reducible rfl
                      rotate_left; · simp only [Act.put, u1_, u2_, u3_, i64_w, i32_w]; rfl
                      refine pure_ (i := 5) (N := some 56) (v := ?_) (a' := ?_) #[Y_,N_,Y_,N_,N_,Y_,N_,N_,N_,N_,N_] rfl rfl (any_of HT_.out (by kernel_rfl)) (fun _ _ _ h => h) (Or.inl ⟨by rfl, ?_⟩) ?_ ?_
                      rotate_left; · intro w'; go_simp; with_reducible rfl
                      rotate_left; · simp only [Act.put, u1_, u2_, u3_, i64_w, i32_w]; rfl
                      refine pure_ (i := 7) (N := some 58) (v := ?_) (a' := ?_) #[Y_,N_,Y_,N_,N_,Y_,N_,Y_,N_,N_,N_] rfl rfl (any_of HT_.out (by kernel_rfl)) (fun _ _ _ h => h) (Or.inl ⟨by rfl, ?_⟩) ?_ ?_
                      rotate_left; · intro w'; go_simp; with_reducible rfl
                      rotate_left; · simp only [Act.put, u1_, u2_, u3_, i64_w, i32_w]; rfl
                      refine take_ (i := 1) (N := some 52) (v := ?_) (a' := ?_) #[Y_,Y_,Y_,N_,N_,Y_,N_,Y_,N_,N_,N_] rfl rfl (take_ofW HT_.out HW_.out (by kernel_rfl)) (fun _ _ _ h => h) (Or.inl ⟨by rfl, ?_⟩) hHeld ?_ ?_
                      rotate_left; · rintro w' ⟨s0, s1, s2, s3, s4, s5, s6, s7, s8, s9, s10, s11⟩; go_simp; with_reducible rfl
                      rotate_left; · simp only [Act.put, u1_, u2_, u3_, i64_w, i32_w]; rfl
                      refine pure_ (i := 3) (N := some 54) (v := ?_) (a' := ?_) #[Y_,Y_,Y_,Y_,N_,Y_,N_,Y_,N_,N_,N_] rfl rfl (any_of HT_.out (by kernel_rfl)) (fun _ _ _ h => h) (Or.inl ⟨by rfl, ?_⟩) ?_ ?_
                      rotate_left; · intro w'; go_simp; with_reducible rfl
                      rotate_left; · simp only [Act.put, u1_, u2_, u3_, i64_w, i32_w]; rfl
                      refine take_ (i := 4) (N := some 55) (v := ?_) (a' := ?_) #[Y_,Y_,Y_,Y_,Y_,Y_,N_,Y_,N_,N_,N_] rfl rfl (take_ofW HT_.out HW_.out (by kernel_rfl)) (fun _ _ _ h => h) (Or.inl ⟨by rfl, ?_⟩) hHeld ?_ ?_
                      rotate_left; · rintro w' ⟨s0, s1, s2, s3, s4, s5, s6, s7, s8, s9, s10, s11⟩; go_simp; with_reducible rfl
                      rotate_left; · simp only [Act.put, u1_, u2_, u3_, i64_w, i32_w]; rfl
                      refine take_ (i := 6) (N := some 57) (v := ?_) (a' := ?_) #[Y_,Y_,Y_,Y_,Y_,Y_,Y_,Y_,N_,N_,N_] rfl rfl (take_ofW HT_.out HW_.out (by kernel_rfl)) (fun _ _ _ h => h) (Or.inl ⟨by rfl, ?_⟩) hHeld ?_ ?_
                      rotate_left; · rintro w' ⟨s0, s1, s2, s3, s4, s5, s6, s7, s8, s9, s10, s11⟩; go_simp; with_reducible rfl
                      rotate_left; · simp only [Act.put, u1_, u2_, u3_, i64_w, i32_w]; rfl
                      refine pure_ (i := 8) (N := some 59) (v := ?_) (a' := ?_) #[Y_,Y_,Y_,Y_,Y_,Y_,Y_,Y_,Y_,N_,N_] rfl rfl (any_of HT_.out (by kernel_rfl)) (fun _ _ _ h => h) (Or.inl ⟨by rfl, ?_⟩) ?_ ?_
                      rotate_left; · intro w'; go_simp; with_reducible rfl
                      rotate_left; · simp only [Act.put, u1_, u2_, u3_, i64_w, i32_w]; rfl
                      refine take_ (i := 9) (N := some 60) (v := ?_) (a' := ?_) #[Y_,Y_,Y_,Y_,Y_,Y_,Y_,Y_,Y_,Y_,N_] rfl rfl (take_ofW HT_.out HW_.out (by kernel_rfl)) (fun _ _ _ h => h) (Or.inl ⟨by rfl, ?_⟩) hHeld ?_ ?_
                      rotate_left; · rintro w' ⟨s0, s1, s2, s3, s4, s5, s6, s7, s8, s9, s10, s11⟩; go_simp; with_reducible rfl
                      rotate_left; · simp only [Act.put, u1_, u2_, u3_, i64_w, i32_w]; rfl
                      refine pure_ (i := 10) (N := some 61) (v := ?_) (a' := ?_) #[Y_,Y_,Y_,Y_,Y_,Y_,Y_,Y_,Y_,Y_,Y_] rfl rfl (any_of HT_.out (by kernel_rfl)) (fun _ _ _ h => h) (Or.inl ⟨by rfl, ?_⟩) ?_ ?_
                      rotate_left; · intro w'; go_simp; with_reducible rfl
                      rotate_left; · simp only [Act.put, u1_, u2_, u3_, i64_w, i32_w]; rfl
                      refine done_ (done_of HT_.out (by kernel_rfl)) ?_
                      try go_wp2
                      go_ret
                      exact ⟨by first | rfl | (simp [errW_none, errW_some] <;> rfl) | (simp [*, errW_none, errW_some] <;> rfl), by repeat (first | (with_reducible first | exact HB.out | apply below_alloc | apply pw_below_drewN | apply below_drew1 | refine below_set ?_ GE227.out | refine below_set ?_ GE228.out) | exact HB.out)⟩
                  · rw [if_neg c32] at H
                    exact absurd H (by simp)
                · rw [if_neg c31] at H
                  exact absurd H (by simp)
              · rw [if_neg c30] at H
                exact absurd H (by simp)
            · rw [if_neg c29] at H
              have c29b0 : decide (x48_2 < (l0_3.length : Int)) = false := decide_eq_false c29
              clear c29
              have H' := Aside0.mk H
              clear H
              have hnb36 := NB227_228.out
              have hnc36 := NB228_227.out
              have hcz37_0 : wr.cell? ⟨gb227, 0, none⟩ = some (.bool a0_0) := (blk_cell BK227.out 0).trans rfl
              have hcz37_1 : wr.cell? ⟨gb227, 1, none⟩ = some (.bool a0_1) := (blk_cell BK227.out 1).trans rfl
              have hcz37_2 : wr.cell? ⟨gb227, 2, none⟩ = some (.slice A0_2 l0_2.length c0_2) := (blk_cell BK227.out 2).trans rfl
              have hcz37_3 : wr.cell? ⟨gb227, 3, none⟩ = some (.slice A0_3 l0_3.length c0_3) := (blk_cell BK227.out 3).trans rfl
              have hcz37_4 : wr.cell? ⟨gb227, 4, none⟩ = some (.slice A0_4 l0_4.length c0_4) := (blk_cell BK227.out 4).trans rfl
              have hfz37_0 := blk_frozen BK227.out 0
              have hfz37_1 := blk_frozen BK227.out 1
              have hfz37_2 := blk_frozen BK227.out 2
              have hfz37_3 := blk_frozen BK227.out 3
              have hfz37_4 := blk_frozen BK227.out 4
              go_wp2
              go_loopg [66] k2 (fun kq v66 w' => ∃ (x66_3 : Int), v66 = .int .i64 x66_3 ∧ Aside0 (boscagelaw11_Same.l1 kq (l0_4.length : Int) x66_3 a0_0 a0_1 l0_2 l0_3 l0_4 a1_0 a1_1 l1_2 l1_3 l1_4 = some r) ∧ Aside0 (kq ≤ k2) ∧ Aside0 (w'.heap[gb227]? = some (.cells #[.bool a0_0, .bool a0_1, (.slice A0_2 l0_2.length c0_2), (.slice A0_3 l0_3.length c0_3), (.slice A0_4 l0_4.length c0_4)] 29 (0, 0))) ∧ Aside0 (w'.heap[gb228]? = some (.cells #[.bool a1_0, .bool a1_1, (.slice A1_2 l1_2.length c1_2), (.slice A1_3 l1_3.length c1_3), (.slice A1_4 l1_4.length c1_4)] 29 (0, 0))) ∧ Aside0 (Below w.heap.size w w'))
              case atStart => exact ⟨(0), (by first | rfl | (simp; done) | (simp [*]; done)), H', ⟨Nat.le_refl _⟩, ⟨by (with_reducible repeat (first | refine blk_drewN ?_ _ | refine blk_drew ?_ | refine blk_alloc ?_ _)); exact BK227.out⟩, ⟨by (with_reducible repeat (first | refine blk_drewN ?_ _ | refine blk_drew ?_ | refine blk_alloc ?_ _)); exact BK228.out⟩, ⟨by repeat (first | (with_reducible first | exact HB.out | apply below_alloc | apply pw_below_drewN | apply below_drew1 | refine below_set ?_ GE227.out | refine below_set ?_ GE228.out) | exact HB.out)⟩⟩
              case round =>
                clear H'
                try clear c1
                try clear c2
                try clear p2
                try clear q2
                try clear hx2
                try clear c3
                try clear c6
                try clear c6b0
                try clear c6b1
                try clear c6b2
                try clear p6
                try clear c7
                try clear c10
                try clear c10b0
                try clear c10b1
                try clear c10b2
                try clear c11
                try clear c15
                try clear c16
                try clear c16b0
                try clear c16b1
                try clear c16b2
                try clear c17
                try clear c20
                try clear c22
                try clear c23
                try clear p23
                try clear q23
                try clear hx23
                try clear c26
                try clear c27
                try clear c29
                try clear c29b0
                try clear c30
                try clear c30b0
                try clear c31
                try clear c31b0
                try clear c32
                try clear c32b0
                try clear c33
                try clear c33b0
                try clear c33b1
                try clear c36
                try clear hcz12_0
                try clear hcz12_1
                try clear hcz12_2
                try clear hcz12_3
                try clear hcz12_4
                try clear hcz13_0
                try clear hcz13_1
                try clear hcz13_2
                try clear hcz13_3
                try clear hcz13_4
                try clear hcz18_0
                try clear hcz18_1
                try clear hcz18_2
                try clear hcz18_3
                try clear hcz18_4
                try clear hcz19_0
                try clear hcz19_1
                try clear hcz19_2
                try clear hcz19_3
                try clear hcz19_4
                try clear hcz21_0
                try clear hcz21_1
                try clear hcz21_2
                try clear hcz21_3
                try clear hcz21_4
                try clear hcz22_0
                try clear hcz22_1
                try clear hcz22_2
                try clear hcz22_3
                try clear hcz22_4
                try clear hcz24_0
                try clear hcz24_1
                try clear hcz24_2
                try clear hcz24_3
                try clear hcz24_4
                try clear hcz25_0
                try clear hcz25_1
                try clear hcz25_2
                try clear hcz25_3
                try clear hcz25_4
                try clear hcz28_0
                try clear hcz28_1
                try clear hcz28_2
                try clear hcz28_3
                try clear hcz28_4
                try clear hcz37_0
                try clear hcz37_1
                try clear hcz37_2
                try clear hcz37_3
                try clear hcz37_4
                try clear hcz8_0
                try clear hcz8_1
                try clear hcz8_2
                try clear hcz8_3
                try clear hcz8_4
                try clear hcz9_0
                try clear hcz9_1
                try clear hcz9_2
                try clear hcz9_3
                try clear hcz9_4
                try clear hfz12_0
                try clear hfz12_1
                try clear hfz12_2
                try clear hfz12_3
                try clear hfz12_4
                try clear hfz13_0
                try clear hfz13_1
                try clear hfz13_2
                try clear hfz13_3
                try clear hfz13_4
                try clear hfz18_0
                try clear hfz18_1
                try clear hfz18_2
                try clear hfz18_3
                try clear hfz18_4
                try clear hfz19_0
                try clear hfz19_1
                try clear hfz19_2
                try clear hfz19_3
                try clear hfz19_4
                try clear hfz21_0
                try clear hfz21_1
                try clear hfz21_2
                try clear hfz21_3
                try clear hfz21_4
                try clear hfz22_0
                try clear hfz22_1
                try clear hfz22_2
                try clear hfz22_3
                try clear hfz22_4
                try clear hfz24_0
                try clear hfz24_1
                try clear hfz24_2
                try clear hfz24_3
                try clear hfz24_4
                try clear hfz25_0
                try clear hfz25_1
                try clear hfz25_2
                try clear hfz25_3
                try clear hfz25_4
                try clear hfz28_0
                try clear hfz28_1
                try clear hfz28_2
                try clear hfz28_3
                try clear hfz28_4
                try clear hfz37_0
                try clear hfz37_1
                try clear hfz37_2
                try clear hfz37_3
                try clear hfz37_4
                try clear hfz8_0
                try clear hfz8_1
                try clear hfz8_2
                try clear hfz8_3
                try clear hfz8_4
                try clear hfz9_0
                try clear hfz9_1
                try clear hfz9_2
                try clear hfz9_3
                try clear hfz9_4
                try clear hx230_0
                try clear hx231_0
                try clear p2
                try clear p230
                try clear p231
                try clear q230
                try clear q231
                obtain ⟨x66_3, rfl, HA, HK3, BK227, BK228, HB⟩ := hrel
                cases gk with
                | zero => exact absurd HA.out (by simp [boscagelaw11_Same.l1])
                | succ k3 =>
                  have H := HA.out
                  clear HA
                  simp only [boscagelaw11_Same.l1] at H
                  by_cases c38 : x66_3 < (l0_4.length : Int)
                  · rw [if_pos c38] at H
                    have c38b0 : decide (x66_3 < (l0_4.length : Int)) = true := decide_eq_true c38
                    clear c38
                    by_cases c39 : 0 ≤ x66_3
                    · rw [if_pos c39] at H
                      have c39b0 : decide (0 ≤ x66_3) = true := decide_eq_true c39
                      clear c39
                      by_cases c40 : x66_3 < (l0_4.length : Int)
                      · rw [if_pos c40] at H
                        have c40b0 : decide (x66_3 < (l0_4.length : Int)) = true := decide_eq_true c40
                        clear c40
                        by_cases c41 : x66_3 < (l1_4.length : Int)
                        · rw [if_pos c41] at H
                          have c41b0 : decide (x66_3 < (l1_4.length : Int)) = true := decide_eq_true c41
                          clear c41
                          replace H := Option.bind_eq_some_iff.mp H
                          obtain ⟨t234, A420, H⟩ := H
                          replace H : (if t234 = true then (boscagelaw11_Same.l1 k3 (l0_4.length : Int) (wrap64 (x66_3 + 1)) a0_0 a0_1 l0_2 l0_3 l0_4 a1_0 a1_1 l1_2 l1_3 l1_4) else (some false)) = some r := H
                          have A42 := Aside0.mk A420
                          clear A420
                          by_cases c43 : t234 = true
                          · subst c43
                            have H1 : (boscagelaw11_Same.l1 k3 (l0_4.length : Int) (wrap64 (x66_3 + 1)) a0_0 a0_1 l0_2 l0_3 l0_4 a1_0 a1_1 l1_2 l1_3 l1_4) = some r := by rw [if_pos rfl] at H; exact H
                            clear H
                            have H := H1
                            clear H1
                            have H' := Aside0.mk H
                            clear H
                            try go_wp2
                            have n0_ := Aside0.mk (blk_drew BK227.out)
                            have n1_ := Aside0.mk (blk_drew BK228.out)
                            have n2_ := Aside0.mk (below_drew1 HB.out)
                            clear BK227
                            clear BK228
                            clear HB
                            have BK227 := n0_
                            have BK228 := n1_
                            have HB := n2_
                            clear n0_ n1_ n2_
                            have p232 : 0 ≤ (x66_3 : Int) := of_decide_eq_true (by first | (with_reducible assumption) | assumption)
                            have q232 : x66_3 < (l0_4.length : Int) := of_decide_eq_true (by first | (with_reducible assumption) | assumption)
                            obtain ⟨ad232, A232_2, c232_2, A232_3, c232_3, A232_4, c232_4, e232, hx232_0, hx232_1, hx232_2, hx232_3, hx232_4, hl232_2, hi232_2, hl232_3, hi232_3, hl232_4, hi232_4⟩ := at_T29 HR0_4.out x66_3 p232 q232
                            have hw232_4 := hx232_4
                            have hw232_3 := hx232_3
                            have hw232_2 := hx232_2
                            have hw232_1 := hx232_1
                            have hw232_0 := hx232_0
                            cases e232
                            replace hx232_0 := (HB.out.cell (World.block_lt_of_cell? w _ hx232_0)).trans hx232_0
                            replace hx232_1 := (HB.out.cell (World.block_lt_of_cell? w _ hx232_1)).trans hx232_1
                            replace hx232_2 := (HB.out.cell (World.block_lt_of_cell? w _ hx232_2)).trans hx232_2
                            replace hx232_3 := (HB.out.cell (World.block_lt_of_cell? w _ hx232_3)).trans hx232_3
                            replace hx232_4 := (HB.out.cell (World.block_lt_of_cell? w _ hx232_4)).trans hx232_4
                            have HR232_2 := Aside0.mk hi232_2
                            have HC232_2 := Aside0.mk hl232_2
                            clear hi232_2 hl232_2
                            have HR232_3 := Aside0.mk hi232_3
                            have HC232_3 := Aside0.mk hl232_3
                            clear hi232_3 hl232_3
                            have HR232_4 := Aside0.mk hi232_4
                            have HC232_4 := Aside0.mk hl232_4
                            clear hi232_4 hl232_4
                            replace p232 := eq_true p232
                            replace q232 := eq_true q232
                            have p233 : 0 ≤ (x66_3 : Int) := of_decide_eq_true (by first | (with_reducible assumption) | assumption)
                            have q233 : x66_3 < (l1_4.length : Int) := of_decide_eq_true (by first | (with_reducible assumption) | assumption)
                            obtain ⟨ad233, A233_2, c233_2, A233_3, c233_3, A233_4, c233_4, e233, hx233_0, hx233_1, hx233_2, hx233_3, hx233_4, hl233_2, hi233_2, hl233_3, hi233_3, hl233_4, hi233_4⟩ := at_T29 HR1_4.out x66_3 p233 q233
                            have hw233_4 := hx233_4
                            have hw233_3 := hx233_3
                            have hw233_2 := hx233_2
                            have hw233_1 := hx233_1
                            have hw233_0 := hx233_0
                            cases e233
                            replace hx233_0 := (HB.out.cell (World.block_lt_of_cell? w _ hx233_0)).trans hx233_0
                            replace hx233_1 := (HB.out.cell (World.block_lt_of_cell? w _ hx233_1)).trans hx233_1
                            replace hx233_2 := (HB.out.cell (World.block_lt_of_cell? w _ hx233_2)).trans hx233_2
                            replace hx233_3 := (HB.out.cell (World.block_lt_of_cell? w _ hx233_3)).trans hx233_3
                            replace hx233_4 := (HB.out.cell (World.block_lt_of_cell? w _ hx233_4)).trans hx233_4
                            have HR233_2 := Aside0.mk hi233_2
                            have HC233_2 := Aside0.mk hl233_2
                            clear hi233_2 hl233_2
                            have HR233_3 := Aside0.mk hi233_3
                            have HC233_3 := Aside0.mk hl233_3
                            clear hi233_3 hl233_3
                            have HR233_4 := Aside0.mk hi233_4
                            have HC233_4 := Aside0.mk hl233_4
                            clear hi233_4 hl233_4
                            replace p233 := eq_true p233
                            replace q233 := eq_true q233
                            refine start_ (n := 12) (S := fun w' => w'.cell? ⟨gb227, 0, none⟩ = some (.bool a0_0) ∧ w'.cell? ⟨gb227, 1, none⟩ = some (.bool a0_1) ∧ w'.cell? ⟨gb227, 2, none⟩ = some (.slice A0_2 l0_2.length c0_2) ∧ w'.cell? ⟨gb227, 3, none⟩ = some (.slice A0_3 l0_3.length c0_3) ∧ w'.cell? ⟨gb227, 4, none⟩ = some (.slice (some ad232) l0_4.length c0_4) ∧ w'.cell? ⟨gb228, 0, none⟩ = some (.bool a1_0) ∧ w'.cell? ⟨gb228, 1, none⟩ = some (.bool a1_1) ∧ w'.cell? ⟨gb228, 2, none⟩ = some (.slice A1_2 l1_2.length c1_2) ∧ w'.cell? ⟨gb228, 3, none⟩ = some (.slice A1_3 l1_3.length c1_3) ∧ w'.cell? ⟨gb228, 4, none⟩ = some (.slice (some ad233) l1_4.length c1_4) ∧ w'.cell? (ad232.add ((x66_3).toNat * 5)) = some (.bool ((rd_T29 l0_4 x66_3).f0)) ∧ w'.cell? ⟨(ad232.add ((x66_3).toNat * 5)).block, (ad232.add ((x66_3).toNat * 5)).off + 1, none⟩ = some (.bool ((rd_T29 l0_4 x66_3).f1)) ∧ w'.cell? ⟨(ad232.add ((x66_3).toNat * 5)).block, (ad232.add ((x66_3).toNat * 5)).off + 2, none⟩ = some (.slice A232_2 ((rd_T29 l0_4 x66_3).f2).length c232_2) ∧ w'.cell? ⟨(ad232.add ((x66_3).toNat * 5)).block, (ad232.add ((x66_3).toNat * 5)).off + 3, none⟩ = some (.slice A232_3 ((rd_T29 l0_4 x66_3).f3).length c232_3) ∧ w'.cell? ⟨(ad232.add ((x66_3).toNat * 5)).block, (ad232.add ((x66_3).toNat * 5)).off + 4, none⟩ = some (.slice A232_4 ((rd_T29 l0_4 x66_3).f4).length c232_4) ∧ w'.cell? (ad233.add ((x66_3).toNat * 5)) = some (.bool ((rd_T29 l1_4 x66_3).f0)) ∧ w'.cell? ⟨(ad233.add ((x66_3).toNat * 5)).block, (ad233.add ((x66_3).toNat * 5)).off + 1, none⟩ = some (.bool ((rd_T29 l1_4 x66_3).f1)) ∧ w'.cell? ⟨(ad233.add ((x66_3).toNat * 5)).block, (ad233.add ((x66_3).toNat * 5)).off + 2, none⟩ = some (.slice A233_2 ((rd_T29 l1_4 x66_3).f2).length c233_2) ∧ w'.cell? ⟨(ad233.add ((x66_3).toNat * 5)).block, (ad233.add ((x66_3).toNat * 5)).off + 3, none⟩ = some (.slice A233_3 ((rd_T29 l1_4 x66_3).f3).length c233_3) ∧ w'.cell? ⟨(ad233.add ((x66_3).toNat * 5)).block, (ad233.add ((x66_3).toNat * 5)).off + 4, none⟩ = some (.slice A233_4 ((rd_T29 l1_4 x66_3).f4).length c233_4)) (ds := []) #[N_,N_,N_,N_,N_,N_,N_,N_,N_,N_,N_,N_] (by kernel_rfl) rfl rfl ⟨(blk_cell BK227.out 0).trans rfl, (blk_cell BK227.out 1).trans rfl, (blk_cell BK227.out 2).trans rfl, (blk_cell BK227.out 3).trans rfl, (blk_cell BK227.out 4).trans rfl, (blk_cell BK228.out 0).trans rfl, (blk_cell BK228.out 1).trans rfl, (blk_cell BK228.out 2).trans rfl, (blk_cell BK228.out 3).trans rfl, (blk_cell BK228.out 4).trans rfl, ((HB.out.cell (World.block_lt_of_cell? w _ hw232_0)).trans hw232_0), ((HB.out.cell (World.block_lt_of_cell? w _ hw232_1)).trans hw232_1), ((HB.out.cell (World.block_lt_of_cell? w _ hw232_2)).trans hw232_2), ((HB.out.cell (World.block_lt_of_cell? w _ hw232_3)).trans hw232_3), ((HB.out.cell (World.block_lt_of_cell? w _ hw232_4)).trans hw232_4), ((HB.out.cell (World.block_lt_of_cell? w _ hw233_0)).trans hw233_0), ((HB.out.cell (World.block_lt_of_cell? w _ hw233_1)).trans hw233_1), ((HB.out.cell (World.block_lt_of_cell? w _ hw233_2)).trans hw233_2), ((HB.out.cell (World.block_lt_of_cell? w _ hw233_3)).trans hw233_3), ((HB.out.cell (World.block_lt_of_cell? w _ hw233_4)).trans hw233_4)⟩ (fun hHeld => ?_); refine with_tabW boscagelaw11_Same.tab12 boscagelaw11_Same.bits12 (fun HT_ HW_ => ?_)
                            generalize wr.drew = w44 at BK227 BK228 HB HR232_2 HR232_3 HR232_4 HR233_2 HR233_3 HR233_4 hx232_0 hx232_1 hx232_2 hx232_3 hx232_4 hx233_0 hx233_1 hx233_2 hx233_3 hx233_4 hHeld ⊢
                            refine pure_ (i := 0) (N := some 69) (v := ?_) (a' := ?_) #[Y_,N_,N_,N_,N_,N_,N_,N_,N_,N_,N_,N_] rfl rfl (any_of HT_.out (by kernel_rfl)) (fun _ _ _ h => h) (Or.inl ⟨by rfl, ?_⟩) ?_ ?_
                            rotate_left; · intro w'; go_simp; with_reducible rfl
                            rotate_left; · simp only [Act.put, u1_, u2_, u3_, i64_w, i32_w]; rfl
                            refine pure_ (i := 2) (N := some 71) (v := ?_) (a' := ?_) #[Y_,N_,Y_,N_,N_,N_,N_,N_,N_,N_,N_,N_] rfl rfl (any_of HT_.out (by kernel_rfl)) (fun _ _ _ h => h) (Or.inl ⟨by rfl, ?_⟩) ?_ ?_
                            rotate_left; · intro w'; go_simp; with_reducible rfl
                            rotate_left; · simp only [Act.put, u1_, u2_, u3_, i64_w, i32_w]; rfl
                            refine pure_ (i := 5) (N := some 74) (v := ?_) (a' := ?_) #[Y_,N_,Y_,N_,N_,Y_,N_,N_,N_,N_,N_,N_] rfl rfl (any_of HT_.out (by kernel_rfl)) (fun _ _ _ h => h) (Or.inl ⟨by rfl, ?_⟩) ?_ ?_
                            rotate_left; · intro w'; go_simp; with_reducible rfl
                            rotate_left; · simp only [Act.put, u1_, u2_, u3_, i64_w, i32_w]; rfl
                            refine pure_ (i := 7) (N := some 76) (v := ?_) (a' := ?_) #[Y_,N_,Y_,N_,N_,Y_,N_,Y_,N_,N_,N_,N_] rfl rfl (any_of HT_.out (by kernel_rfl)) (fun _ _ _ h => h) (Or.inl ⟨by rfl, ?_⟩) ?_ ?_
                            rotate_left; · intro w'; go_simp; with_reducible rfl
                            rotate_left; · simp only [Act.put, u1_, u2_, u3_, i64_w, i32_w]; rfl
                            refine take_ (i := 1) (N := some 70) (v := ?_) (a' := ?_) #[Y_,Y_,Y_,N_,N_,Y_,N_,Y_,N_,N_,N_,N_] rfl rfl (take_ofW HT_.out HW_.out (by kernel_rfl)) (fun _ _ _ h => h) (Or.inl ⟨by rfl, ?_⟩) hHeld ?_ ?_
                            rotate_left; · rintro w' ⟨s0, s1, s2, s3, s4, s5, s6, s7, s8, s9, s10, s11, s12, s13, s14, s15, s16, s17, s18, s19⟩; go_simp; with_reducible rfl
                            rotate_left; · simp only [Act.put, u1_, u2_, u3_, i64_w, i32_w]; rfl
                            refine pure_ (i := 3) (N := some 72) (v := ?_) (a' := ?_) #[Y_,Y_,Y_,Y_,N_,Y_,N_,Y_,N_,N_,N_,N_] rfl rfl (any_of HT_.out (by kernel_rfl)) (fun _ _ _ h => h) (Or.inl ⟨by rfl, ?_⟩) ?_ ?_
                            rotate_left; · intro w'; go_simp; with_reducible rfl
                            rotate_left; · simp only [Act.put, u1_, u2_, u3_, i64_w, i32_w]; rfl
                            refine take_ (i := 4) (N := some 73) (v := ?_) (a' := ?_) #[Y_,Y_,Y_,Y_,Y_,Y_,N_,Y_,N_,N_,N_,N_] rfl rfl (take_ofW HT_.out HW_.out (by kernel_rfl)) (fun _ _ _ h => h) (Or.inl ⟨by rfl, ?_⟩) hHeld ?_ ?_
                            rotate_left; · rintro w' ⟨s0, s1, s2, s3, s4, s5, s6, s7, s8, s9, s10, s11, s12, s13, s14, s15, s16, s17, s18, s19⟩; go_simp; with_reducible rfl
                            rotate_left; · simp only [Act.put, u1_, u2_, u3_, i64_w, i32_w]; rfl
                            refine take_ (i := 6) (N := some 75) (v := ?_) (a' := ?_) #[Y_,Y_,Y_,Y_,Y_,Y_,Y_,Y_,N_,N_,N_,N_] rfl rfl (take_ofW HT_.out HW_.out (by kernel_rfl)) (fun _ _ _ h => h) (Or.inl ⟨by rfl, ?_⟩) hHeld ?_ ?_
                            rotate_left; · rintro w' ⟨s0, s1, s2, s3, s4, s5, s6, s7, s8, s9, s10, s11, s12, s13, s14, s15, s16, s17, s18, s19⟩; go_simp; with_reducible rfl
                            rotate_left; · simp only [Act.put, u1_, u2_, u3_, i64_w, i32_w]; rfl
                            refine pure_ (i := 8) (N := some 77) (v := ?_) (a' := ?_) #[Y_,Y_,Y_,Y_,Y_,Y_,Y_,Y_,Y_,N_,N_,N_] rfl rfl (any_of HT_.out (by kernel_rfl)) (fun _ _ _ h => h) (Or.inl ⟨by rfl, ?_⟩) ?_ ?_
                            rotate_left; · intro w'; go_simp; with_reducible rfl
                            rotate_left; · simp only [Act.put, u1_, u2_, u3_, i64_w, i32_w]; rfl
                            refine take_ (i := 9) (N := some 78) (v := ?_) (a' := ?_) #[Y_,Y_,Y_,Y_,Y_,Y_,Y_,Y_,Y_,Y_,N_,N_] rfl rfl (take_ofW HT_.out HW_.out (by kernel_rfl)) (fun _ _ _ h => h) (Or.inl ⟨by rfl, ?_⟩) hHeld ?_ ?_
                            rotate_left; · rintro w' ⟨s0, s1, s2, s3, s4, s5, s6, s7, s8, s9, s10, s11, s12, s13, s14, s15, s16, s17, s18, s19⟩; go_simp; with_reducible rfl
                            rotate_left; · simp only [Act.put, u1_, u2_, u3_, i64_w, i32_w]; rfl
                            refine one_ (i := 10) (N := some 79) #[Y_,Y_,Y_,Y_,Y_,Y_,Y_,Y_,Y_,Y_,Y_,N_] rfl rfl (one_of HT_.out (by kernel_rfl)) (by decide) (fun K hK => ?_)
                            refine goes_ Tryz.func22 (by kernel_rfl) rfl #[.agg #[.bool ((rd_T29 l0_4 x66_3).f0), .bool ((rd_T29 l0_4 x66_3).f1), .slice A232_2 ((rd_T29 l0_4 x66_3).f2).length c232_2, .slice A232_3 ((rd_T29 l0_4 x66_3).f3).length c232_3, .slice A232_4 ((rd_T29 l0_4 x66_3).f4).length c232_4], .agg #[.bool ((rd_T29 l1_4 x66_3).f0), .bool ((rd_T29 l1_4 x66_3).f1), .slice A233_2 ((rd_T29 l1_4 x66_3).f2).length c233_2, .slice A233_3 ((rd_T29 l1_4 x66_3).f3).length c233_3, .slice A233_4 ((rd_T29 l1_4 x66_3).f4).length c233_4]] (by rfl) rfl rfl (by (try simp only [List.map_toArray, List.map_cons, List.map_nil]); first | done | rfl | (simp only [List.length_drop, List.length_take]; rfl)) ?_
                            with_reducible refine (ih k3 (by have := HJ2.out; have := HK2.out; have := HK3.out; omega) ((rd_T29 l0_4 x66_3).f0) ((rd_T29 l0_4 x66_3).f1) _ _ ((rd_T29 l0_4 x66_3).f2) _ _ ((rd_T29 l0_4 x66_3).f3) _ _ ((rd_T29 l0_4 x66_3).f4) ((rd_T29 l1_4 x66_3).f0) ((rd_T29 l1_4 x66_3).f1) _ _ ((rd_T29 l1_4 x66_3).f2) _ _ ((rd_T29 l1_4 x66_3).f3) _ _ ((rd_T29 l1_4 x66_3).f4) true _ ?side1 ?side2 ?side3 ?side4 ?side5 ?side6 ?side7 ?side8 ?side9 ?side10 ?side11 ?side12 A42.out).mono ?_
                            (case side1 => repeat (first | exact (Kd.C_below HR232_2.out HB.out) | (with_reducible refine Kd.C_alloc ?_ _) | (with_reducible refine Kd.C_drewN ?_ _) | (with_reducible refine Kd.C_drew ?_)))
                            (case side2 => exact HC232_2.out)
                            (case side3 => repeat (first | exact (Kd.C_below HR232_3.out HB.out) | (with_reducible refine Kd.C_alloc ?_ _) | (with_reducible refine Kd.C_drewN ?_ _) | (with_reducible refine Kd.C_drew ?_)))
                            (case side4 => exact HC232_3.out)
                            (case side5 => repeat (first | exact (Kd.C_below HR232_4.out HB.out) | (with_reducible refine Kd.C_alloc ?_ _) | (with_reducible refine Kd.C_drewN ?_ _) | (with_reducible refine Kd.C_drew ?_)))
                            (case side6 => exact HC232_4.out)
                            (case side7 => repeat (first | exact (Kd.C_below HR233_2.out HB.out) | (with_reducible refine Kd.C_alloc ?_ _) | (with_reducible refine Kd.C_drewN ?_ _) | (with_reducible refine Kd.C_drew ?_)))
                            (case side8 => exact HC233_2.out)
                            (case side9 => repeat (first | exact (Kd.C_below HR233_3.out HB.out) | (with_reducible refine Kd.C_alloc ?_ _) | (with_reducible refine Kd.C_drewN ?_ _) | (with_reducible refine Kd.C_drew ?_)))
                            (case side10 => exact HC233_3.out)
                            (case side11 => repeat (first | exact (Kd.C_below HR233_4.out HB.out) | (with_reducible refine Kd.C_alloc ?_ _) | (with_reducible refine Kd.C_drewN ?_ _) | (with_reducible refine Kd.C_drew ?_)))
                            (case side12 => exact HC233_4.out)
                            rintro e w45 ⟨rfl, hb⟩
                            refine ⟨_, rfl, ?_⟩
                            have n0_ := Aside0.mk (blk_below (g := gb227) (o := .cells #[.bool a0_0, .bool a0_1, .slice A0_2 l0_2.length c0_2, .slice A0_3 l0_3.length c0_3, .slice (some ad232) l0_4.length c0_4] 29 (0, 0)) (by (with_reducible repeat (first | refine blk_drewN ?_ _ | refine blk_drew ?_ | refine blk_alloc ?_ _)); exact BK227.out) hb)
                            have n1_ := Aside0.mk (blk_below (g := gb228) (o := .cells #[.bool a1_0, .bool a1_1, .slice A1_2 l1_2.length c1_2, .slice A1_3 l1_3.length c1_3, .slice (some ad233) l1_4.length c1_4] 29 (0, 0)) (by (with_reducible repeat (first | refine blk_drewN ?_ _ | refine blk_drew ?_ | refine blk_alloc ?_ _)); exact BK228.out) hb)
                            have n2_ := Aside0.mk (below_step (by repeat (first | (with_reducible first | exact HB.out | apply below_alloc | apply pw_below_drewN | apply below_drew1 | refine below_set ?_ GE227.out | refine below_set ?_ GE228.out) | exact HB.out)) hb)
                            clear BK227
                            clear BK228
                            clear HB
                            have BK227 := n0_
                            have BK228 := n1_
                            have HB := n2_
                            clear n0_ n1_ n2_
                            (try clear hb)
                            (try clear hb2)
                            (try clear hk)
                            (try clear hi)
                            refine hK.out _ _ ⟨(blk_cell BK227.out 0).trans rfl, (blk_cell BK227.out 1).trans rfl, (blk_cell BK227.out 2).trans rfl, (blk_cell BK227.out 3).trans rfl, (blk_cell BK227.out 4).trans rfl, (blk_cell BK228.out 0).trans rfl, (blk_cell BK228.out 1).trans rfl, (blk_cell BK228.out 2).trans rfl, (blk_cell BK228.out 3).trans rfl, (blk_cell BK228.out 4).trans rfl, ((HB.out.cell (World.block_lt_of_cell? w _ hw232_0)).trans hw232_0), ((HB.out.cell (World.block_lt_of_cell? w _ hw232_1)).trans hw232_1), ((HB.out.cell (World.block_lt_of_cell? w _ hw232_2)).trans hw232_2), ((HB.out.cell (World.block_lt_of_cell? w _ hw232_3)).trans hw232_3), ((HB.out.cell (World.block_lt_of_cell? w _ hw232_4)).trans hw232_4), ((HB.out.cell (World.block_lt_of_cell? w _ hw233_0)).trans hw233_0), ((HB.out.cell (World.block_lt_of_cell? w _ hw233_1)).trans hw233_1), ((HB.out.cell (World.block_lt_of_cell? w _ hw233_2)).trans hw233_2), ((HB.out.cell (World.block_lt_of_cell? w _ hw233_3)).trans hw233_3), ((HB.out.cell (World.block_lt_of_cell? w _ hw233_4)).trans hw233_4)⟩ (fun hHeld => ?_)
                            clear hK K
                            refine norm_ (a' := ?_) ?_ ?_
                            rotate_left; · show Act.put _ (some 79) _ = _; simp only [Act.put, u1_, u2_, u3_, i64_w, i32_w]; rfl
                            refine pure_ (i := 11) (N := some 80) (v := ?_) (a' := ?_) #[Y_,Y_,Y_,Y_,Y_,Y_,Y_,Y_,Y_,Y_,Y_,Y_] rfl rfl (any_of HT_.out (by kernel_rfl)) (fun _ _ _ h => h) (Or.inl ⟨by rfl, ?_⟩) ?_ ?_
                            rotate_left; · intro w'; go_simp; with_reducible rfl
                            rotate_left; · simp only [Act.put, u1_, u2_, u3_, i64_w, i32_w]; rfl
                            refine done_ (done_of HT_.out (by kernel_rfl)) ?_
                            try go_wp2
                            go_roundg k3
                            case measure => have := HJ2.out; have := HK2.out; have := HK3.out; omega
                            case rel => exact ⟨(wrap64 (x66_3 + 1)), (by first | rfl | (simp; done) | (simp [*]; done)), H', ⟨by have := HJ2.out; have := HK2.out; have := HK3.out; omega⟩, ⟨by (with_reducible repeat (first | refine blk_drewN ?_ _ | refine blk_drew ?_ | refine blk_alloc ?_ _)); exact BK227.out⟩, ⟨by (with_reducible repeat (first | refine blk_drewN ?_ _ | refine blk_drew ?_ | refine blk_alloc ?_ _)); exact BK228.out⟩, ⟨by repeat (first | (with_reducible first | exact HB.out | apply below_alloc | apply pw_below_drewN | apply below_drew1 | refine below_set ?_ GE227.out | refine below_set ?_ GE228.out) | exact HB.out)⟩⟩
                          · replace c43 := Bool.eq_false_iff.mpr c43
                            subst c43
                            have H1 : (some false) = some r := by rw [if_neg (show ¬ (false = true) by decide)] at H; exact H
                            clear H
                            have H := H1
                            clear H1
                            obtain rfl := Option.some.inj H
                            try go_wp2
                            have n0_ := Aside0.mk (blk_drew BK227.out)
                            have n1_ := Aside0.mk (blk_drew BK228.out)
                            have n2_ := Aside0.mk (below_drew1 HB.out)
                            clear BK227
                            clear BK228
                            clear HB
                            have BK227 := n0_
                            have BK228 := n1_
                            have HB := n2_
                            clear n0_ n1_ n2_
                            have p232 : 0 ≤ (x66_3 : Int) := of_decide_eq_true (by first | (with_reducible assumption) | assumption)
                            have q232 : x66_3 < (l0_4.length : Int) := of_decide_eq_true (by first | (with_reducible assumption) | assumption)
                            obtain ⟨ad232, A232_2, c232_2, A232_3, c232_3, A232_4, c232_4, e232, hx232_0, hx232_1, hx232_2, hx232_3, hx232_4, hl232_2, hi232_2, hl232_3, hi232_3, hl232_4, hi232_4⟩ := at_T29 HR0_4.out x66_3 p232 q232
                            have hw232_4 := hx232_4
                            have hw232_3 := hx232_3
                            have hw232_2 := hx232_2
                            have hw232_1 := hx232_1
                            have hw232_0 := hx232_0
                            cases e232
                            replace hx232_0 := (HB.out.cell (World.block_lt_of_cell? w _ hx232_0)).trans hx232_0
                            replace hx232_1 := (HB.out.cell (World.block_lt_of_cell? w _ hx232_1)).trans hx232_1
                            replace hx232_2 := (HB.out.cell (World.block_lt_of_cell? w _ hx232_2)).trans hx232_2
                            replace hx232_3 := (HB.out.cell (World.block_lt_of_cell? w _ hx232_3)).trans hx232_3
                            replace hx232_4 := (HB.out.cell (World.block_lt_of_cell? w _ hx232_4)).trans hx232_4
                            have HR232_2 := Aside0.mk hi232_2
                            have HC232_2 := Aside0.mk hl232_2
                            clear hi232_2 hl232_2
                            have HR232_3 := Aside0.mk hi232_3
                            have HC232_3 := Aside0.mk hl232_3
                            clear hi232_3 hl232_3
                            have HR232_4 := Aside0.mk hi232_4
                            have HC232_4 := Aside0.mk hl232_4
                            clear hi232_4 hl232_4
                            replace p232 := eq_true p232
                            replace q232 := eq_true q232
                            have p233 : 0 ≤ (x66_3 : Int) := of_decide_eq_true (by first | (with_reducible assumption) | assumption)
                            have q233 : x66_3 < (l1_4.length : Int) := of_decide_eq_true (by first | (with_reducible assumption) | assumption)
                            obtain ⟨ad233, A233_2, c233_2, A233_3, c233_3, A233_4, c233_4, e233, hx233_0, hx233_1, hx233_2, hx233_3, hx233_4, hl233_2, hi233_2, hl233_3, hi233_3, hl233_4, hi233_4⟩ := at_T29 HR1_4.out x66_3 p233 q233
                            have hw233_4 := hx233_4
                            have hw233_3 := hx233_3
                            have hw233_2 := hx233_2
                            have hw233_1 := hx233_1
                            have hw233_0 := hx233_0
                            cases e233
                            replace hx233_0 := (HB.out.cell (World.block_lt_of_cell? w _ hx233_0)).trans hx233_0
                            replace hx233_1 := (HB.out.cell (World.block_lt_of_cell? w _ hx233_1)).trans hx233_1
                            replace hx233_2 := (HB.out.cell (World.block_lt_of_cell? w _ hx233_2)).trans hx233_2
                            replace hx233_3 := (HB.out.cell (World.block_lt_of_cell? w _ hx233_3)).trans hx233_3
                            replace hx233_4 := (HB.out.cell (World.block_lt_of_cell? w _ hx233_4)).trans hx233_4
                            have HR233_2 := Aside0.mk hi233_2
                            have HC233_2 := Aside0.mk hl233_2
                            clear hi233_2 hl233_2
                            have HR233_3 := Aside0.mk hi233_3
                            have HC233_3 := Aside0.mk hl233_3
                            clear hi233_3 hl233_3
                            have HR233_4 := Aside0.mk hi233_4
                            have HC233_4 := Aside0.mk hl233_4
                            clear hi233_4 hl233_4
                            replace p233 := eq_true p233
                            replace q233 := eq_true q233
                            refine start_ (n := 12) (S := fun w' => w'.cell? ⟨gb227, 0, none⟩ = some (.bool a0_0) ∧ w'.cell? ⟨gb227, 1, none⟩ = some (.bool a0_1) ∧ w'.cell? ⟨gb227, 2, none⟩ = some (.slice A0_2 l0_2.length c0_2) ∧ w'.cell? ⟨gb227, 3, none⟩ = some (.slice A0_3 l0_3.length c0_3) ∧ w'.cell? ⟨gb227, 4, none⟩ = some (.slice (some ad232) l0_4.length c0_4) ∧ w'.cell? ⟨gb228, 0, none⟩ = some (.bool a1_0) ∧ w'.cell? ⟨gb228, 1, none⟩ = some (.bool a1_1) ∧ w'.cell? ⟨gb228, 2, none⟩ = some (.slice A1_2 l1_2.length c1_2) ∧ w'.cell? ⟨gb228, 3, none⟩ = some (.slice A1_3 l1_3.length c1_3) ∧ w'.cell? ⟨gb228, 4, none⟩ = some (.slice (some ad233) l1_4.length c1_4) ∧ w'.cell? (ad232.add ((x66_3).toNat * 5)) = some (.bool ((rd_T29 l0_4 x66_3).f0)) ∧ w'.cell? ⟨(ad232.add ((x66_3).toNat * 5)).block, (ad232.add ((x66_3).toNat * 5)).off + 1, none⟩ = some (.bool ((rd_T29 l0_4 x66_3).f1)) ∧ w'.cell? ⟨(ad232.add ((x66_3).toNat * 5)).block, (ad232.add ((x66_3).toNat * 5)).off + 2, none⟩ = some (.slice A232_2 ((rd_T29 l0_4 x66_3).f2).length c232_2) ∧ w'.cell? ⟨(ad232.add ((x66_3).toNat * 5)).block, (ad232.add ((x66_3).toNat * 5)).off + 3, none⟩ = some (.slice A232_3 ((rd_T29 l0_4 x66_3).f3).length c232_3) ∧ w'.cell? ⟨(ad232.add ((x66_3).toNat * 5)).block, (ad232.add ((x66_3).toNat * 5)).off + 4, none⟩ = some (.slice A232_4 ((rd_T29 l0_4 x66_3).f4).length c232_4) ∧ w'.cell? (ad233.add ((x66_3).toNat * 5)) = some (.bool ((rd_T29 l1_4 x66_3).f0)) ∧ w'.cell? ⟨(ad233.add ((x66_3).toNat * 5)).block, (ad233.add ((x66_3).toNat * 5)).off + 1, none⟩ = some (.bool ((rd_T29 l1_4 x66_3).f1)) ∧ w'.cell? ⟨(ad233.add ((x66_3).toNat * 5)).block, (ad233.add ((x66_3).toNat * 5)).off + 2, none⟩ = some (.slice A233_2 ((rd_T29 l1_4 x66_3).f2).length c233_2) ∧ w'.cell? ⟨(ad233.add ((x66_3).toNat * 5)).block, (ad233.add ((x66_3).toNat * 5)).off + 3, none⟩ = some (.slice A233_3 ((rd_T29 l1_4 x66_3).f3).length c233_3) ∧ w'.cell? ⟨(ad233.add ((x66_3).toNat * 5)).block, (ad233.add ((x66_3).toNat * 5)).off + 4, none⟩ = some (.slice A233_4 ((rd_T29 l1_4 x66_3).f4).length c233_4)) (ds := []) #[N_,N_,N_,N_,N_,N_,N_,N_,N_,N_,N_,N_] (by kernel_rfl) rfl rfl ⟨(blk_cell BK227.out 0).trans rfl, (blk_cell BK227.out 1).trans rfl, (blk_cell BK227.out 2).trans rfl, (blk_cell BK227.out 3).trans rfl, (blk_cell BK227.out 4).trans rfl, (blk_cell BK228.out 0).trans rfl, (blk_cell BK228.out 1).trans rfl, (blk_cell BK228.out 2).trans rfl, (blk_cell BK228.out 3).trans rfl, (blk_cell BK228.out 4).trans rfl, ((HB.out.cell (World.block_lt_of_cell? w _ hw232_0)).trans hw232_0), ((HB.out.cell (World.block_lt_of_cell? w _ hw232_1)).trans hw232_1), ((HB.out.cell (World.block_lt_of_cell? w _ hw232_2)).trans hw232_2), ((HB.out.cell (World.block_lt_of_cell? w _ hw232_3)).trans hw232_3), ((HB.out.cell (World.block_lt_of_cell? w _ hw232_4)).trans hw232_4), ((HB.out.cell (World.block_lt_of_cell? w _ hw233_0)).trans hw233_0), ((HB.out.cell (World.block_lt_of_cell? w _ hw233_1)).trans hw233_1), ((HB.out.cell (World.block_lt_of_cell? w _ hw233_2)).trans hw233_2), ((HB.out.cell (World.block_lt_of_cell? w _ hw233_3)).trans hw233_3), ((HB.out.cell (World.block_lt_of_cell? w _ hw233_4)).trans hw233_4)⟩ (fun hHeld => ?_); refine with_tabW boscagelaw11_Same.tab12 boscagelaw11_Same.bits12 (fun HT_ HW_ => ?_)
                            generalize wr.drew = w46 at BK227 BK228 HB HR232_2 HR232_3 HR232_4 HR233_2 HR233_3 HR233_4 hx232_0 hx232_1 hx232_2 hx232_3 hx232_4 hx233_0 hx233_1 hx233_2 hx233_3 hx233_4 hHeld ⊢
                            refine pure_ (i := 0) (N := some 69) (v := ?_) (a' := ?_) #[Y_,N_,N_,N_,N_,N_,N_,N_,N_,N_,N_,N_] rfl rfl (any_of HT_.out (by kernel_rfl)) (fun _ _ _ h => h) (Or.inl ⟨by rfl, ?_⟩) ?_ ?_
                            rotate_left; · intro w'; go_simp; with_reducible rfl
                            rotate_left; · simp only [Act.put, u1_, u2_, u3_, i64_w, i32_w]; rfl
                            refine pure_ (i := 2) (N := some 71) (v := ?_) (a' := ?_) #[Y_,N_,Y_,N_,N_,N_,N_,N_,N_,N_,N_,N_] rfl rfl (any_of HT_.out (by kernel_rfl)) (fun _ _ _ h => h) (Or.inl ⟨by rfl, ?_⟩) ?_ ?_
                            rotate_left; · intro w'; go_simp; with_reducible rfl
                            rotate_left; · simp only [Act.put, u1_, u2_, u3_, i64_w, i32_w]; rfl
                            refine pure_ (i := 5) (N := some 74) (v := ?_) (a' := ?_) #[Y_,N_,Y_,N_,N_,Y_,N_,N_,N_,N_,N_,N_] rfl rfl (any_of HT_.out (by kernel_rfl)) (fun _ _ _ h => h) (Or.inl ⟨by rfl, ?_⟩) ?_ ?_
                            rotate_left; · intro w'; go_simp; with_reducible rfl
                            rotate_left; · simp only [Act.put, u1_, u2_, u3_, i64_w, i32_w]; rfl
                            refine pure_ (i := 7) (N := some 76) (v := ?_) (a' := ?_) #[Y_,N_,Y_,N_,N_,Y_,N_,Y_,N_,N_,N_,N_] rfl rfl (any_of HT_.out (by kernel_rfl)) (fun _ _ _ h => h) (Or.inl ⟨by rfl, ?_⟩) ?_ ?_
                            rotate_left; · intro w'; go_simp; with_reducible rfl
                            rotate_left; · simp only [Act.put, u1_, u2_, u3_, i64_w, i32_w]; rfl
                            refine take_ (i := 1) (N := some 70) (v := ?_) (a' := ?_) #[Y_,Y_,Y_,N_,N_,Y_,N_,Y_,N_,N_,N_,N_] rfl rfl (take_ofW HT_.out HW_.out (by kernel_rfl)) (fun _ _ _ h => h) (Or.inl ⟨by rfl, ?_⟩) hHeld ?_ ?_
                            rotate_left; · rintro w' ⟨s0, s1, s2, s3, s4, s5, s6, s7, s8, s9, s10, s11, s12, s13, s14, s15, s16, s17, s18, s19⟩; go_simp; with_reducible rfl
                            rotate_left; · simp only [Act.put, u1_, u2_, u3_, i64_w, i32_w]; rfl
                            refine pure_ (i := 3) (N := some 72) (v := ?_) (a' := ?_) #[Y_,Y_,Y_,Y_,N_,Y_,N_,Y_,N_,N_,N_,N_] rfl rfl (any_of HT_.out (by kernel_rfl)) (fun _ _ _ h => h) (Or.inl ⟨by rfl, ?_⟩) ?_ ?_
                            rotate_left; · intro w'; go_simp; with_reducible rfl
                            rotate_left; · simp only [Act.put, u1_, u2_, u3_, i64_w, i32_w]; rfl
                            refine take_ (i := 4) (N := some 73) (v := ?_) (a' := ?_) #[Y_,Y_,Y_,Y_,Y_,Y_,N_,Y_,N_,N_,N_,N_] rfl rfl (take_ofW HT_.out HW_.out (by kernel_rfl)) (fun _ _ _ h => h) (Or.inl ⟨by rfl, ?_⟩) hHeld ?_ ?_
                            rotate_left; · rintro w' ⟨s0, s1, s2, s3, s4, s5, s6, s7, s8, s9, s10, s11, s12, s13, s14, s15, s16, s17, s18, s19⟩; go_simp; with_reducible rfl
                            rotate_left; · simp only [Act.put, u1_, u2_, u3_, i64_w, i32_w]; rfl
                            refine take_ (i := 6) (N := some 75) (v := ?_) (a' := ?_) #[Y_,Y_,Y_,Y_,Y_,Y_,Y_,Y_,N_,N_,N_,N_] rfl rfl (take_ofW HT_.out HW_.out (by kernel_rfl)) (fun _ _ _ h => h) (Or.inl ⟨by rfl, ?_⟩) hHeld ?_ ?_
                            rotate_left; · rintro w' ⟨s0, s1, s2, s3, s4, s5, s6, s7, s8, s9, s10, s11, s12, s13, s14, s15, s16, s17, s18, s19⟩; go_simp; with_reducible rfl
                            rotate_left; · simp only [Act.put, u1_, u2_, u3_, i64_w, i32_w]; rfl
                            refine pure_ (i := 8) (N := some 77) (v := ?_) (a' := ?_) #[Y_,Y_,Y_,Y_,Y_,Y_,Y_,Y_,Y_,N_,N_,N_] rfl rfl (any_of HT_.out (by kernel_rfl)) (fun _ _ _ h => h) (Or.inl ⟨by rfl, ?_⟩) ?_ ?_
                            rotate_left; · intro w'; go_simp; with_reducible rfl
                            rotate_left; · simp only [Act.put, u1_, u2_, u3_, i64_w, i32_w]; rfl
                            refine take_ (i := 9) (N := some 78) (v := ?_) (a' := ?_) #[Y_,Y_,Y_,Y_,Y_,Y_,Y_,Y_,Y_,Y_,N_,N_] rfl rfl (take_ofW HT_.out HW_.out (by kernel_rfl)) (fun _ _ _ h => h) (Or.inl ⟨by rfl, ?_⟩) hHeld ?_ ?_
                            rotate_left; · rintro w' ⟨s0, s1, s2, s3, s4, s5, s6, s7, s8, s9, s10, s11, s12, s13, s14, s15, s16, s17, s18, s19⟩; go_simp; with_reducible rfl
                            rotate_left; · simp only [Act.put, u1_, u2_, u3_, i64_w, i32_w]; rfl
                            refine one_ (i := 10) (N := some 79) #[Y_,Y_,Y_,Y_,Y_,Y_,Y_,Y_,Y_,Y_,Y_,N_] rfl rfl (one_of HT_.out (by kernel_rfl)) (by decide) (fun K hK => ?_)
                            refine goes_ Tryz.func22 (by kernel_rfl) rfl #[.agg #[.bool ((rd_T29 l0_4 x66_3).f0), .bool ((rd_T29 l0_4 x66_3).f1), .slice A232_2 ((rd_T29 l0_4 x66_3).f2).length c232_2, .slice A232_3 ((rd_T29 l0_4 x66_3).f3).length c232_3, .slice A232_4 ((rd_T29 l0_4 x66_3).f4).length c232_4], .agg #[.bool ((rd_T29 l1_4 x66_3).f0), .bool ((rd_T29 l1_4 x66_3).f1), .slice A233_2 ((rd_T29 l1_4 x66_3).f2).length c233_2, .slice A233_3 ((rd_T29 l1_4 x66_3).f3).length c233_3, .slice A233_4 ((rd_T29 l1_4 x66_3).f4).length c233_4]] (by rfl) rfl rfl (by (try simp only [List.map_toArray, List.map_cons, List.map_nil]); first | done | rfl | (simp only [List.length_drop, List.length_take]; rfl)) ?_
                            with_reducible refine (ih k3 (by have := HJ2.out; have := HK2.out; have := HK3.out; omega) ((rd_T29 l0_4 x66_3).f0) ((rd_T29 l0_4 x66_3).f1) _ _ ((rd_T29 l0_4 x66_3).f2) _ _ ((rd_T29 l0_4 x66_3).f3) _ _ ((rd_T29 l0_4 x66_3).f4) ((rd_T29 l1_4 x66_3).f0) ((rd_T29 l1_4 x66_3).f1) _ _ ((rd_T29 l1_4 x66_3).f2) _ _ ((rd_T29 l1_4 x66_3).f3) _ _ ((rd_T29 l1_4 x66_3).f4) false _ ?side1 ?side2 ?side3 ?side4 ?side5 ?side6 ?side7 ?side8 ?side9 ?side10 ?side11 ?side12 A42.out).mono ?_
                            (case side1 => repeat (first | exact (Kd.C_below HR232_2.out HB.out) | (with_reducible refine Kd.C_alloc ?_ _) | (with_reducible refine Kd.C_drewN ?_ _) | (with_reducible refine Kd.C_drew ?_)))
                            (case side2 => exact HC232_2.out)
                            (case side3 => repeat (first | exact (Kd.C_below HR232_3.out HB.out) | (with_reducible refine Kd.C_alloc ?_ _) | (with_reducible refine Kd.C_drewN ?_ _) | (with_reducible refine Kd.C_drew ?_)))
                            (case side4 => exact HC232_3.out)
                            (case side5 => repeat (first | exact (Kd.C_below HR232_4.out HB.out) | (with_reducible refine Kd.C_alloc ?_ _) | (with_reducible refine Kd.C_drewN ?_ _) | (with_reducible refine Kd.C_drew ?_)))
                            (case side6 => exact HC232_4.out)
                            (case side7 => repeat (first | exact (Kd.C_below HR233_2.out HB.out) | (with_reducible refine Kd.C_alloc ?_ _) | (with_reducible refine Kd.C_drewN ?_ _) | (with_reducible refine Kd.C_drew ?_)))
                            (case side8 => exact HC233_2.out)
                            (case side9 => repeat (first | exact (Kd.C_below HR233_3.out HB.out) | (with_reducible refine Kd.C_alloc ?_ _) | (with_reducible refine Kd.C_drewN ?_ _) | (with_reducible refine Kd.C_drew ?_)))
                            (case side10 => exact HC233_3.out)
                            (case side11 => repeat (first | exact (Kd.C_below HR233_4.out HB.out) | (with_reducible refine Kd.C_alloc ?_ _) | (with_reducible refine Kd.C_drewN ?_ _) | (with_reducible refine Kd.C_drew ?_)))
                            (case side12 => exact HC233_4.out)
                            rintro e w47 ⟨rfl, hb⟩
                            refine ⟨_, rfl, ?_⟩
                            have n0_ := Aside0.mk (blk_below (g := gb227) (o := .cells #[.bool a0_0, .bool a0_1, .slice A0_2 l0_2.length c0_2, .slice A0_3 l0_3.length c0_3, .slice (some ad232) l0_4.length c0_4] 29 (0, 0)) (by (with_reducible repeat (first | refine blk_drewN ?_ _ | refine blk_drew ?_ | refine blk_alloc ?_ _)); exact BK227.out) hb)
                            have n1_ := Aside0.mk (blk_below (g := gb228) (o := .cells #[.bool a1_0, .bool a1_1, .slice A1_2 l1_2.length c1_2, .slice A1_3 l1_3.length c1_3, .slice (some ad233) l1_4.length c1_4] 29 (0, 0)) (by (with_reducible repeat (first | refine blk_drewN ?_ _ | refine blk_drew ?_ | refine blk_alloc ?_ _)); exact BK228.out) hb)
                            have n2_ := Aside0.mk (below_step (by repeat (first | (with_reducible first | exact HB.out | apply below_alloc | apply pw_below_drewN | apply below_drew1 | refine below_set ?_ GE227.out | refine below_set ?_ GE228.out) | exact HB.out)) hb)
                            clear BK227
                            clear BK228
                            clear HB
                            have BK227 := n0_
                            have BK228 := n1_
                            have HB := n2_
                            clear n0_ n1_ n2_
                            (try clear hb)
                            (try clear hb2)
                            (try clear hk)
                            (try clear hi)
                            refine hK.out _ _ ⟨(blk_cell BK227.out 0).trans rfl, (blk_cell BK227.out 1).trans rfl, (blk_cell BK227.out 2).trans rfl, (blk_cell BK227.out 3).trans rfl, (blk_cell BK227.out 4).trans rfl, (blk_cell BK228.out 0).trans rfl, (blk_cell BK228.out 1).trans rfl, (blk_cell BK228.out 2).trans rfl, (blk_cell BK228.out 3).trans rfl, (blk_cell BK228.out 4).trans rfl, ((HB.out.cell (World.block_lt_of_cell? w _ hw232_0)).trans hw232_0), ((HB.out.cell (World.block_lt_of_cell? w _ hw232_1)).trans hw232_1), ((HB.out.cell (World.block_lt_of_cell? w _ hw232_2)).trans hw232_2), ((HB.out.cell (World.block_lt_of_cell? w _ hw232_3)).trans hw232_3), ((HB.out.cell (World.block_lt_of_cell? w _ hw232_4)).trans hw232_4), ((HB.out.cell (World.block_lt_of_cell? w _ hw233_0)).trans hw233_0), ((HB.out.cell (World.block_lt_of_cell? w _ hw233_1)).trans hw233_1), ((HB.out.cell (World.block_lt_of_cell? w _ hw233_2)).trans hw233_2), ((HB.out.cell (World.block_lt_of_cell? w _ hw233_3)).trans hw233_3), ((HB.out.cell (World.block_lt_of_cell? w _ hw233_4)).trans hw233_4)⟩ (fun hHeld => ?_)
                            clear hK K
                            refine norm_ (a' := ?_) ?_ ?_
                            rotate_left; · show Act.put _ (some 79) _ = _; simp only [Act.put, u1_, u2_, u3_, i64_w, i32_w]; rfl
                            refine pure_ (i := 11) (N := some 80) (v := ?_) (a' := ?_) #[Y_,Y_,Y_,Y_,Y_,Y_,Y_,Y_,Y_,Y_,Y_,Y_] rfl rfl (any_of HT_.out (by kernel_rfl)) (fun _ _ _ h => h) (Or.inl ⟨by rfl, ?_⟩) ?_ ?_
                            rotate_left; · intro w'; go_simp; with_reducible rfl
                            rotate_left; · simp only [Act.put, u1_, u2_, u3_, i64_w, i32_w]; rfl
                            refine done_ (done_of HT_.out (by kernel_rfl)) ?_
                            try go_wp2
                            go_ret
                            exact ⟨by first | rfl | (simp [errW_none, errW_some] <;> rfl) | (simp [*, errW_none, errW_some] <;> rfl), by repeat (first | (with_reducible first | exact HB.out | apply below_alloc | apply pw_below_drewN | apply below_drew1 | refine below_set ?_ GE227.out | refine below_set ?_ GE228.out) | exact HB.out)⟩
                        · rw [if_neg c41] at H
                          exact absurd H (by simp)
                      · rw [if_neg c40] at H
                        exact absurd H (by simp)
                    · rw [if_neg c39] at H
                      exact absurd H (by simp)
                  · rw [if_neg c38] at H
                    have c38b0 : decide (x66_3 < (l0_4.length : Int)) = false := decide_eq_false c38
                    clear c38
                    obtain rfl := Option.some.inj H
                    go_wp2
                    go_ret
                    exact ⟨by first | rfl | (simp [errW_none, errW_some] <;> rfl) | (simp [*, errW_none, errW_some] <;> rfl), by repeat (first | (with_reducible first | exact HB.out | apply below_alloc | apply pw_below_drewN | apply below_drew1 | refine below_set ?_ GE227.out | refine below_set ?_ GE228.out) | exact HB.out)⟩
end Go.Proofs.YtelmidpepojbdaaGreat.PMendRight
namespace Go.Proofs.YtelmidpepojbdaaGreat.Tower
open Go Go.RowKit Go.Proofs.YtelmidpepojbdaaGreatW.PrintWords Go.Proofs.YtelmidpepojbdaaGreatW.PrintLast Go.Proofs.YtelmidpepojbdaaGreatW.PrintMore Go.Proofs.YtelmidpepojbdaaGreat.Own Go.Proofs.YtelmidpepojbdaaGreat.PMendRight
set_option linter.unusedVariables false
set_option linter.unusedSimpArgs false
structure RFacts (keys : List Int) (b0 key : Int) (kf k k2 kd : Nat) (ys : List Pr2) (wd : Nat) (s : Sh) (m nodes dp : Int) (x0 X : Ws) (f g : Nat) (log : List Int) : Prop where
  rising : boscagelaw02_Rising.f kf keys = some ys
  len : ys.length ≤ 60
  wide : boscagelaw11_Wide.f b0 = some (wd : Int)
  w3 : 3 ≤ wd
  w8 : wd ≤ 8
  even : evenT ys wd = s
  many : boscagelaw11_Shape_Many.f k s.f0 s.f1 s.f2 s.f3 s.f4 = some m
  nodesEq : wrap64 (wrap64 (2 + m) + 2) = nodes
  n2 : 2 ≤ nodes
  n6 : nodes ≤ 65536
  new : ws0 (((wd + 1) / 2 : Nat) : Int) wd 1 nodes 2 = some x0
  plant : plantT s x0 = some X
  good : Ws.Good X
  deep : boscagelaw11_Shape_Deep.f kd s.f0 s.f1 s.f2 s.f3 s.f4 = some dp
  fuel : f < 900000
  runs : aloneT (menderT key f) 3000 X [] = some (some [0], g, X, log)
  steps : ((3000 - g : Nat) : Int) = wrap64 (1 + dp)
  read : Ws.read X = (s, X.ar)
  same : boscagelaw11_Same.f k2 s.f0 s.f1 s.f2 s.f3 s.f4 s.f0 s.f1 s.f2 s.f3 s.f4 = some true
  used : X.ar.used = wrap64 (1 + m)
  recs : X.tb.l.length = 0
def TRight10 : Bool × List (List Nat × List Nat) := (true, [([], []), ([0], [0]), ([1], [1]), ([1], [1]), ([3, 1, 1], [1, 3]), ([4, 1], [1, 4]), ([2, 5, 1], [1, 2, 5]), ([1, 6], [1, 6]), ([7, 4], [7]), ([8], [8]), ([9, 8, 8], [8, 9]), ([10, 8], [8, 10]), ([8, 11], [8, 11]), ([12, 10], [12]), ([13], [13]), ([14, 13, 13], [13, 14]), ([13], [13]), ([15, 16, 15, 13], [13, 15, 16]), ([13, 17], [13, 17]), ([18, 17], [18]), ([19], [19]), ([20, 19], [19, 20]), ([21, 19], [19, 21]), ([22, 19], [19, 22]), ([23, 19, 19], [19, 23]), ([19], [19]), ([25, 24, 19], [19, 25]), ([26, 19], [19, 26]), ([24, 27, 19], [19, 24, 27]), ([19, 28], [19, 28]), ([29, 26], [29]), ([30], [30]), ([31, 30], [30, 31]), ([32, 30], [30, 32]), ([33, 30], [30, 33]), ([34, 30, 30], [30, 34]), ([35, 30], [30, 35]), ([30, 36], [30, 36]), ([37, 35, 0, 1, 2, 3, 4, 5, 6, 7, 8, 9, 10, 11, 12, 13, 14, 15, 16, 17, 18, 19, 20, 21, 22, 23, 24, 25, 26, 27, 28, 29, 30, 31, 32, 33, 34, 35, 36, 37], [37])])
def BRight10 : List Nat := [0, 1, 3, 3, 11, 27, 63, 127, 255, 511, 1023, 2047, 4095, 8191, 16383, 32767, 16383, 131071, 262143, 524287, 1048575, 2097151, 4194303, 8388607, 16777215, 1048575, 67108863, 134217727, 268435455, 536870911, 1073741823, 2147483647, 4294967295, 8589934591, 17179869183, 34359738367, 68719476735, 137438953471, 274877906943]
theorem tabRight10 : rtab .any (opsOf Tryz.f3 10) = TRight10 := by kernel_rfl
theorem bitsRight10 : waitsOk TRight10.2 BRight10 = true := by kernel_rfl
set_option maxHeartbeats 4000000 in
set_option maxRecDepth 100000 in
theorem right_walk (A : Option Addr) (c : Nat) (keys : List Int) (b0 key : Int) (w : World) (hC : (Kd.int .i64).C w A keys.length keys) (hc : keys.length ≤ c) (h60 : keys.length ≤ 60)
    {kf k k2 kd : Nat} {ys : List Pr2} {wd : Nat} {s : Sh} {m nodes dp : Int} {x0 X : Ws} {f g : Nat} {log : List Int} (hf : RFacts keys b0 key kf k k2 kd ys wd s m nodes dp x0 X f g log) :
    Calls Tryz.prog 3 #[.slice A keys.length c, .int .u8 b0, .int .i64 key] w fun e w1 => e = .returned (.bool true) ∧ Below w.heap.size w w1 := by
  have HF := Aside0.mk hf
  have HCK := Aside0.mk (And.intro hC hc)
  have d60 : decide ((keys.length : Int) > 60) = false := decide_eq_false (by omega)
  have d61 : decide (60 < keys.length) = false := decide_eq_false (by omega)
  have HLO := Aside0.mk (lo_eq wd hf.w8)
  clear hf hC hc h60
  go_enter Tryz.func3, Tryz.ntmps3
  go_upto_region 3 with (go_at_call 13; refine (awake14 _).mono ?_; rintro e w2 ⟨rfl, hb⟩; have B2 := Aside0.mk hb; clear hb)
  go_upto_region 5 with fail
  clear d60 d61
  go_upto_region 7 with (first
    | (go_at_call 14; refine (boscagelaw11_Wide.calls b0 _ _ HF.out.wide).mono ?_; rintro e w3 ⟨rfl, hd⟩; have B3 := Aside0.mk (below_then B2.out B2.out.size hd.below); clear hd)
    | (go_at_call 16; refine (boscagelaw02_Rising.calls kf A c keys ys _ (Kd.C_below HCK.out.1 B3.out) HCK.out.2 HF.out.rising).mono ?_; rintro e w4 ⟨v0, rfl, hR, hb⟩; obtain ⟨Ay, cy, rfl⟩ := Kd.R_slice hR; have HY := Aside0.mk (Kd.R_reads' hR).2; have B4 := Aside0.mk (below_then B3.out B3.out.size hb); clear hR hb)
    | (go_at_call 15; refine (even_any Ay cy ys wd _ HY.out.2 HY.out.1 HF.out.len HF.out.w3 HF.out.w8).mono ?_; rw [HF.out.even]; rintro e w5 ⟨cs, rfl, hfk, hb⟩; obtain ⟨A2, c2, A3, c3, A4, c4, rfl, _⟩ := k29_openF hfk; have F5 := Aside0.mk hfk; have B5 := Aside0.mk (below_then B4.out B4.out.size hb); clear hfk hb))
  have Y6 := Aside0.mk (Mine.new (ok := fun _ => False) (w := w5) (fun q hq => hq.elim) (.cells #[.bool s.f0, .bool s.f1, .slice A2 s.f2.length c2, .slice A3 s.f3.length c3, .slice A4 s.f4.length c4] 29))
  have B6 := Aside0.mk (below_then B5.out B5.out.size (below_alloc (Below.refl w5.heap.size w5) (.cells #[.bool s.f0, .bool s.f1, .slice A2 s.f2.length c2, .slice A3 s.f3.length c3, .slice A4 s.f4.length c4] 29)))
  have F6 := Aside0.mk (FK_below F5.out (Nat.le_refl _) (below_alloc (Below.refl w5.heap.size w5) (.cells #[.bool s.f0, .bool s.f1, .slice A2 s.f2.length c2, .slice A3 s.f3.length c3, .slice A4 s.f4.length c4] 29)))
  have Z6 : Aside0 (w.heap.size ≤ w5.heap.size) := ⟨B5.out.size⟩
  clear B5 F5
  generalize w5.alloc (.cells #[.bool s.f0, .bool s.f1, .slice A2 s.f2.length c2, .slice A3 s.f3.length c3, .slice A4 s.f4.length c4] 29) = w6 at Y6 B6 F6 ⊢
  generalize w5.heap.size = b8 at Y6 Z6 F6 ⊢
  have L6 : Aside0 (b8 < w6.heap.size) := ⟨Y6.out.lt⟩
  have y0 := (blk_cell Y6.out.1 0).trans (rfl : _ = some (Value.bool s.f0))
  have y1 := (blk_cell Y6.out.1 1).trans (rfl : _ = some (Value.bool s.f1))
  have y2 := (blk_cell Y6.out.1 2).trans (rfl : _ = some (Value.slice A2 s.f2.length c2))
  have y3 := (blk_cell Y6.out.1 3).trans (rfl : _ = some (Value.slice A3 s.f3.length c3))
  have y4 := (blk_cell Y6.out.1 4).trans (rfl : _ = some (Value.slice A4 s.f4.length c4))
  go_upto_region 8 with (go_at_call 17; (try rw [HLO.out]); refine (home_calls k _ _ 1 s 2 2 m nodes x0 X _ _ F6.out HF.out.many HF.out.nodesEq (by have := HF.out.w3; omega) (by have := HF.out.w8; omega) (by omega) (by have := HF.out.w8; omega) (by omega) (by omega) HF.out.n2 HF.out.n6 (by omega) (by omega) HF.out.new HF.out.plant).mono ?_; rintro e w7 hE; obtain ⟨okW, p, rfl, hW, hFr, hB⟩ := hE.out; have W7 := Aside0.mk hW; have N7 := Aside0.mk hFr; have B7 := Aside0.mk (below_then B6.out B6.out.size hB); have Y7 := Aside0.mk (Y6.out.moves (Moves.of_below _ hB)); have F7 := Aside0.mk (FK_below F6.out (Nat.le_refl _) hB); clear hE hW hFr hB y0 y1 y2 y3 y4)
  have hlt7 : ∀ q, okW q → q < w7.heap.size := (worldShared p).lt W7.out
  have Q7 : Aside0 (∀ q, okW q → b8 < q ∧ q < w7.heap.size) := ⟨fun q hq => ⟨Nat.lt_of_lt_of_le L6.out (N7.out q hq), hlt7 q hq⟩⟩
  have N7' : Aside0 (∀ q, okW q → w6.heap.size ≤ q) := N7
  clear hlt7 B6 Y6 F6 N7
  go_upto_region 9 with (go_at_call 18; refine (mender_calls p 0 key _).mono ?_; rintro e w71 ⟨tb, bf, bw, bm, bk, rfl, h1, h2, h3, h4, h5, h6, h7, h8, h9, ht, hs, hk, hb⟩; have L2 := Aside0.mk (And.intro h1 (And.intro h2 (And.intro h3 (And.intro h4 h5)))); have N2 := Aside0.mk (And.intro h6 (And.intro h7 (And.intro h8 h9))); have T2 := Aside0.mk ht; have S2 := Aside0.mk hs; have K2 := Aside0.mk hk; have B71 := Aside0.mk hb; clear h1 h2 h3 h4 h5 h6 h7 h8 h9 ht hs hk hb)
  have hW2 : shW p X okW w71 := ⟨(worldShared p).step W7.out B71.out.size (fun q _ hlt => B71.out.block q hlt), HF.out.good⟩
  obtain ⟨l1, l2, l3, l4, l5⟩ := L2.out
  obtain ⟨n1, n2, n3, n4⟩ := N2.out
  have hb8 : b8 < w7.heap.size := Y7.out.lt
  have HID : Aside0 (Idle (shW p) tb (startWork bf bw bm) (fun q => q = tb ∨ okW q) X (thOf [] 0 false) w71) := ⟨⟨fun q => q = tb, okW, fun _ => Iff.rfl, fun q hq h => by have := (Q7.out q h).2; omega, T2.out, hW2⟩⟩
  have hno : ∀ b, w7.heap.size ≤ b → tb ≠ b → ¬ (b = tb ∨ okW b) := fun b hb hn h => h.elim (fun e => hn e.symm) (fun h1 => by have := (Q7.out b h1).2; omega)
  have HBX : Aside0 (MenderBx p 0 key bf bw bm bk (fun q => q = tb ∨ okW q) w71) := ⟨⟨⟨S2.out.hf.1, hno bf l2 n1⟩, ⟨S2.out.hw.1, hno bw l3 n2⟩, ⟨S2.out.hm.1, hno bm l4 n3⟩⟩, ⟨K2.out.1, hno bk l5 n4⟩⟩
  have HB5 := Aside0.mk (below_then B7.out B7.out.size B71.out)
  have HO5 : Aside0 (∀ q, (q = tb ∨ okW q) → w.heap.size ≤ q) := ⟨fun q hq => hq.elim (fun e => by have := B7.out.size; omega) (fun h => by have := (Q7.out q h).1; have := Z6.out; omega)⟩
  have Y71 : Aside0 (Mine (fun q => q = tb ∨ okW q) w71 b8 (.cells #[.bool s.f0, .bool s.f1, .slice A2 s.f2.length c2, .slice A3 s.f3.length c3, .slice A4 s.f4.length c4] 29 (0, 0))) := ⟨blk_below Y7.out.1 B71.out, fun h => h.elim (fun e => by omega) (fun h1 => by have := (Q7.out b8 h1).1; omega)⟩
  have F71 := Aside0.mk (Kd.FK_mono (FK_below F7.out (Nat.le_refl _) B71.out) (fun q hq => (fun h => h.elim (fun e => by have := hq.2; omega) (fun h1 => by have := N7'.out q h1; have := hq.1.2; omega)) : ∀ q, (_ ∧ q < w6.heap.size) ∧ q < w7.heap.size → ¬ (q = tb ∨ okW q)))
  clear hW2 l1 l2 l3 l4 l5 n1 n2 n3 n4 hno W7 B7 L2 N2 T2 S2 K2 B71 Y7 F7 Z6 L6 Q7 N7' hb8
  go_upto_region 10 with (go_at_call 19; refine (mender_alone p tb 0 key bf bw bm bk _ X [] 0 false _ f HF.out.fuel HID.out (by simp) HBX.out _ HF.out.runs).mono ?_; rintro e w8 hE; obtain ⟨ok3, hm3, _, at3, sp3, hi3, v, rfl, hv⟩ := hE.out; have M8 := Aside0.mk hm3; have I8 := Aside0.mk hi3; dsimp only; rw [HF.out.steps]; clear hE hm3 hi3 hv HID HBX)
  obtain ⟨okT, okS, hiff, _, ht6, hW6⟩ := I8.out.out
  obtain ⟨okA, okR, okE, pA, pR, pE, hw6⟩ := hW6.1
  have hsub : ∀ q, okS q → ok3 q := fun q hq => (hiff q).2 (.inr hq)
  have T8 := Aside0.mk ht6
  have W8 := Aside0.mk hw6
  have B8 := Aside0.mk (moves_outer M8.out HB5.out HO5.out)
  have HOS : Aside0 (∀ q, okS q → w.heap.size ≤ q) := ⟨fun q hq => (M8.out.fresh q (hsub q hq)).elim (HO5.out q) (fun h => Nat.le_trans HB5.out.size h)⟩
  have Y8 : Aside0 (Mine okS w8 b8 (.cells #[.bool s.f0, .bool s.f1, .slice A2 s.f2.length c2, .slice A3 s.f3.length c3, .slice A4 s.f4.length c4] 29 (0, 0))) := ⟨(Y71.out.moves M8.out).1, fun h => (Y71.out.moves M8.out).2 (hsub _ h)⟩
  have K8 : Aside0 (kSh.FK w8 (fun q => ¬ okS q) s [.bool s.f0, .bool s.f1, .slice A2 s.f2.length c2, .slice A3 s.f3.length c3, .slice A4 s.f4.length c4]) := ⟨Kd.FK_mono (FK_moves F71.out M8.out) (fun q hq h => hq (hsub q h))⟩
  clear hiff ht6 hW6 hw6 hsub M8 I8 HB5 HO5 Y71 F71
  have HC := Aside0.mk (show w8.cell? ⟨b8, 0, none⟩ = some (.bool s.f0) ∧ w8.cell? ⟨b8, 1, none⟩ = some (.bool s.f1) ∧ w8.cell? ⟨b8, 2, none⟩ = some (.slice A2 s.f2.length c2) ∧ w8.cell? ⟨b8, 3, none⟩ = some (.slice A3 s.f3.length c3) ∧ w8.cell? ⟨b8, 4, none⟩ = some (.slice A4 s.f4.length c4) ∧ w8.cell? ⟨p, 0, none⟩ = some (.pointer (some ⟨pA, 0, none⟩)) ∧ w8.cell? ⟨p, 1, none⟩ = some (.pointer (some ⟨pR, 0, none⟩)) from ⟨(blk_cell (Y8.out.1) 0).trans rfl, (blk_cell (Y8.out.1) 1).trans rfl, (blk_cell (Y8.out.1) 2).trans rfl, (blk_cell (Y8.out.1) 3).trans rfl, (blk_cell (Y8.out.1) 4).trans rfl, (blk_cell (W8.out.box) 0).trans rfl, (blk_cell (W8.out.box) 1).trans rfl⟩)
  refine ordStart (n := 39) (S := fun w' => w'.cell? ⟨b8, 0, none⟩ = some (.bool s.f0) ∧ w'.cell? ⟨b8, 1, none⟩ = some (.bool s.f1) ∧ w'.cell? ⟨b8, 2, none⟩ = some (.slice A2 s.f2.length c2) ∧ w'.cell? ⟨b8, 3, none⟩ = some (.slice A3 s.f3.length c3) ∧ w'.cell? ⟨b8, 4, none⟩ = some (.slice A4 s.f4.length c4) ∧ w'.cell? ⟨p, 0, none⟩ = some (.pointer (some ⟨pA, 0, none⟩)) ∧ w'.cell? ⟨p, 1, none⟩ = some (.pointer (some ⟨pR, 0, none⟩))) (ds := []) (by kernel_rfl) rfl tabRight10 bitsRight10 HC.out (fun hHeld HT_ HW_ => ?_)
  have hbd : Below w8.heap.size w8 w8.drew := below_drew (Below.refl _ _)
  have W9 := Aside0.mk (W8.out.step hbd.size (fun q _ hlt => hbd.block q hlt))
  have T9 := Aside0.mk (T8.out.step hbd.size (fun q _ hlt => hbd.block q hlt))
  have B9 := Aside0.mk (below_then B8.out B8.out.size hbd)
  have Y9 := Aside0.mk (Y8.out.moves (Moves.of_below _ hbd))
  have K9 := Aside0.mk (FK_moves K8.out (Moves.of_below okS hbd))
  clear hbd T8 W8 B8 Y8 K8
  clear HC
  generalize w8.drew = w9 at T9 W9 B9 Y9 K9 hHeld ⊢
  refine ord_ [(0, some 40), (1, some 41), (2, some 42), (3, some 43)] ?_
  iterate 3 (refine ordP (v := ?_) (a' := ?_) HT_ (by kernel_rfl) rfl rfl (fun _ _ _ h => h) (Or.inl ⟨by rfl, ?_⟩) ?_ ?_; rotate_left; (intro w'; go_simp; with_reducible rfl); rotate_left; (simp only [Act.put, p1_, p2_, p3_, i64_w, i32_w]; rfl))
  (refine ordT (v := ?_) (a' := ?_) HT_ HW_ (by kernel_rfl) rfl rfl (fun _ _ _ h => h) hHeld (Or.inl ⟨by rfl, ?_⟩) ?_ ?_; rotate_left; (rintro w' ⟨s0, s1, s2, s3, s4, s5, s6⟩; go_simp; with_reducible rfl); rotate_left; (simp only [Act.put, p1_, p2_, p3_, i64_w, i32_w]; rfl))
  refine ordNil ?_
  refine ordOne (i := 4) (some 44) HT_ (by kernel_rfl) rfl rfl (by decide) (fun K_ hK => ?_)
  refine call_ 20 #[.agg #[.bool s.f0, .bool s.f1, .slice A2 s.f2.length c2, .slice A3 s.f3.length c3, .slice A4 s.f4.length c4]] (by rfl) rfl ?hrun4 ?_
  (case hrun4 => first | (go_simp; done) | (go_simp; exact enters Tryz.func20 (by kernel_rfl) rfl _ _))
  refine (boscagelaw11_Shape_Deep.calls kd s.f0 s.f1 A2 c2 s.f2 A3 c3 s.f3 A4 c4 s.f4 dp _ (KO K9.out).2.1 (KO K9.out).1 (KO K9.out).2.2.2.1 (KO K9.out).2.2.1 (KO K9.out).2.2.2.2.2 (KO K9.out).2.2.2.2.1 HF.out.deep).mono ?_
  rintro e w10 ⟨rfl, hb⟩
  have W10 := Aside0.mk (W9.out.step hb.size (fun q _ hlt => hb.block q hlt))
  have T10 := Aside0.mk (T9.out.step hb.size (fun q _ hlt => hb.block q hlt))
  have B10 := Aside0.mk (below_then B9.out B9.out.size hb)
  have Y10 := Aside0.mk (Y9.out.moves (Moves.of_below _ hb))
  have K10 := Aside0.mk (FK_moves K9.out (Moves.of_below okS hb))
  clear hb T9 W9 B9 Y9 K9
  refine ⟨_, rfl, ?_⟩
  refine hK.out _ _ ⟨(blk_cell (Y10.out.1) 0).trans rfl, (blk_cell (Y10.out.1) 1).trans rfl, (blk_cell (Y10.out.1) 2).trans rfl, (blk_cell (Y10.out.1) 3).trans rfl, (blk_cell (Y10.out.1) 4).trans rfl, (blk_cell (W10.out.box) 0).trans rfl, (blk_cell (W10.out.box) 1).trans rfl⟩ (fun hHeld => ?_)
  clear hK K_
  refine norm_ (a' := ?_) ?_ ?_
  rotate_left; · show Act.put _ (some 44) _ = _; simp only [Act.put, p1_, p2_, p3_, i64_w, i32_w]; rfl
  refine ord_ [(5, some 45), (6, some 46), (7, some 47), (8, some 48), (9, some 49)] ?_
  iterate 5 (refine ordP (v := ?_) (a' := ?_) HT_ (by kernel_rfl) rfl rfl (fun _ _ _ h => h) (Or.inl ⟨by rfl, ?_⟩) ?_ ?_; rotate_left; (intro w'; go_simp; with_reducible rfl); rotate_left; (simp only [Act.put, p1_, p2_, p3_, i64_w, i32_w]; rfl))
  refine ordNil ?_
  refine ordOne (i := 10) (some 50) HT_ (by kernel_rfl) rfl rfl (by decide) (fun K_ hK => ?_)
  refine call_ 21 #[.pointer (some ⟨tb, 0, none⟩)] (by rfl) rfl ?hrun10 ?_
  (case hrun10 => first | (go_simp; done) | (go_simp; exact enters Tryz.func21 (by kernel_rfl) rfl _ _))
  refine (came_calls _ T10.out rfl (by simp)).mono ?_
  rintro e w11 ⟨rfl, hb⟩
  have W11 := Aside0.mk (W10.out.step hb.size (fun q _ hlt => hb.block q hlt))
  have T11 := Aside0.mk (T10.out.step hb.size (fun q _ hlt => hb.block q hlt))
  have B11 := Aside0.mk (below_then B10.out B10.out.size hb)
  have Y11 := Aside0.mk (Y10.out.moves (Moves.of_below _ hb))
  have K11 := Aside0.mk (FK_moves K10.out (Moves.of_below okS hb))
  clear hb T10 W10 B10 Y10 K10
  refine ⟨_, rfl, ?_⟩
  refine hK.out _ _ ⟨(blk_cell (Y11.out.1) 0).trans rfl, (blk_cell (Y11.out.1) 1).trans rfl, (blk_cell (Y11.out.1) 2).trans rfl, (blk_cell (Y11.out.1) 3).trans rfl, (blk_cell (Y11.out.1) 4).trans rfl, (blk_cell (W11.out.box) 0).trans rfl, (blk_cell (W11.out.box) 1).trans rfl⟩ (fun hHeld => ?_)
  clear hK K_
  refine norm_ (a' := ?_) ?_ ?_
  rotate_left; · show Act.put _ (some 50) _ = _; simp only [Act.put, p1_, p2_, p3_, i64_w, i32_w]; rfl
  refine ord_ [(11, some 51), (12, some 52), (13, some 53), (14, some 54), (16, some 56)] ?_
  iterate 4 (refine ordP (v := ?_) (a' := ?_) HT_ (by kernel_rfl) rfl rfl (fun _ _ _ h => h) (Or.inl ⟨by rfl, ?_⟩) ?_ ?_; rotate_left; (intro w'; go_simp; with_reducible rfl); rotate_left; (simp only [Act.put, p1_, p2_, p3_, i64_w, i32_w]; rfl))
  (refine ordT (v := ?_) (a' := ?_) HT_ HW_ (by kernel_rfl) rfl rfl (fun _ _ _ h => h) hHeld (Or.inl ⟨by rfl, ?_⟩) ?_ ?_; rotate_left; (rintro w' ⟨s0, s1, s2, s3, s4, s5, s6⟩; go_simp; with_reducible rfl); rotate_left; (simp only [Act.put, p1_, p2_, p3_, i64_w, i32_w]; rfl))
  refine ordNil ?_
  refine ordOne (i := 15) (some 55) HT_ (by kernel_rfl) rfl rfl (by decide) (fun K_ hK => ?_)
  refine call_ 23 #[.pointer (some ⟨p, 0, none⟩)] (by rfl) rfl ?hrun15 ?_
  (case hrun15 => first | (go_simp; done) | (go_simp; exact enters Tryz.func23 (by kernel_rfl) rfl _ _))
  refine (readw_calls _ W11.out HF.out.good.ar.fits).mono ?_
  rintro e w12 hE
  obtain ⟨ok4, okA4, hw4, hm4⟩ := hE.out
  obtain ⟨cs, rfl, hfk⟩ := hE.val
  rw [HF.out.read] at hfk hw4
  have W12 := Aside0.mk hw4
  have B12 := Aside0.mk (moves_outer hm4 B11.out HOS.out)
  have HO4 : Aside0 (∀ q, ok4 q → w.heap.size ≤ q) := ⟨fun q hq => (hm4.fresh q hq).elim (HOS.out q) (fun h => Nat.le_trans B11.out.size h)⟩
  have Y12 := Aside0.mk (Y11.out.moves hm4)
  have K12 := Aside0.mk (FK_moves K11.out hm4)
  obtain ⟨B2, d2, B3, d3, B4, d4, rfl, l2, F2, l3, F3, l4, F4⟩ := k29_openF hfk
  have G2 := Aside0.mk (And.intro l2 (And.intro (Kd.F_now F2) (And.intro l3 (And.intro (Kd.F_now F3) (And.intro l4 (Kd.F_now F4))))))
  clear hE hw4 hm4 hfk l2 F2 l3 F3 l4 F4 T11 W11 B11 Y11 K11 HOS
  generalize hokS : okS = okS0
  clear hokS
  generalize ok4 = okS at W12 Y12 K12 HO4
  refine ⟨_, rfl, ?_⟩
  refine hK.out _ _ ⟨(blk_cell (Y12.out.1) 0).trans rfl, (blk_cell (Y12.out.1) 1).trans rfl, (blk_cell (Y12.out.1) 2).trans rfl, (blk_cell (Y12.out.1) 3).trans rfl, (blk_cell (Y12.out.1) 4).trans rfl, (blk_cell (W12.out.box) 0).trans rfl, (blk_cell (W12.out.box) 1).trans rfl⟩ (fun hHeld => ?_)
  clear hK K_
  refine norm_ (a' := ?_) ?_ ?_
  rotate_left; · show Act.put _ (some 55) _ = _; simp only [Act.put, p1_, p2_, p3_, i64_w, i32_w]; rfl
  refine ordOne (i := 17) (some 57) HT_ (by kernel_rfl) rfl rfl (by decide) (fun K_ hK => ?_)
  refine call_ 22 #[.agg #[.bool s.f0, .bool s.f1, .slice B2 s.f2.length d2, .slice B3 s.f3.length d3, .slice B4 s.f4.length d4], .agg #[.bool s.f0, .bool s.f1, .slice A2 s.f2.length c2, .slice A3 s.f3.length c3, .slice A4 s.f4.length c4]] (by rfl) rfl ?hrun17 ?_
  (case hrun17 => first | (go_simp; done) | (go_simp; exact enters Tryz.func22 (by kernel_rfl) rfl _ _))
  refine (boscagelaw11_Same.calls k2 s.f0 s.f1 B2 d2 s.f2 B3 d3 s.f3 B4 d4 s.f4 s.f0 s.f1 A2 c2 s.f2 A3 c3 s.f3 A4 c4 s.f4 true _ G2.out.2.1 G2.out.1 G2.out.2.2.2.1 G2.out.2.2.1 G2.out.2.2.2.2.2 G2.out.2.2.2.2.1 (KO K12.out).2.1 (KO K12.out).1 (KO K12.out).2.2.2.1 (KO K12.out).2.2.1 (KO K12.out).2.2.2.2.2 (KO K12.out).2.2.2.2.1 HF.out.same).mono ?_
  rintro e w13 ⟨rfl, hb⟩
  have W13 := Aside0.mk (W12.out.step hb.size (fun q _ hlt => hb.block q hlt))
  have B13 := Aside0.mk (below_then B12.out B12.out.size hb)
  have Y13 := Aside0.mk (Y12.out.moves (Moves.of_below _ hb))
  have K13 := Aside0.mk (FK_moves K12.out (Moves.of_below okS hb))
  clear hb W12 B12 Y12 K12
  clear G2
  refine ⟨_, rfl, ?_⟩
  refine hK.out _ _ ⟨(blk_cell (Y13.out.1) 0).trans rfl, (blk_cell (Y13.out.1) 1).trans rfl, (blk_cell (Y13.out.1) 2).trans rfl, (blk_cell (Y13.out.1) 3).trans rfl, (blk_cell (Y13.out.1) 4).trans rfl, (blk_cell (W13.out.box) 0).trans rfl, (blk_cell (W13.out.box) 1).trans rfl⟩ (fun hHeld => ?_)
  clear hK K_
  refine norm_ (a' := ?_) ?_ ?_
  rotate_left; · show Act.put _ (some 57) _ = _; simp only [Act.put, p1_, p2_, p3_, i64_w, i32_w]; rfl
  refine ord_ [(18, some 58), (19, some 59), (20, some 60), (21, some 61), (22, some 62), (23, some 63), (25, some 65)] ?_
  iterate 5 (refine ordP (v := ?_) (a' := ?_) HT_ (by kernel_rfl) rfl rfl (fun _ _ _ h => h) (Or.inl ⟨by rfl, ?_⟩) ?_ ?_; rotate_left; (intro w'; go_simp; with_reducible rfl); rotate_left; (simp only [Act.put, p1_, p2_, p3_, i64_w, i32_w]; rfl))
  iterate 2 (refine ordT (v := ?_) (a' := ?_) HT_ HW_ (by kernel_rfl) rfl rfl (fun _ _ _ h => h) hHeld (Or.inl ⟨by rfl, ?_⟩) ?_ ?_; rotate_left; (rintro w' ⟨s0, s1, s2, s3, s4, s5, s6⟩; go_simp; with_reducible rfl); rotate_left; (simp only [Act.put, p1_, p2_, p3_, i64_w, i32_w]; rfl))
  refine ordNil ?_
  refine ordOne (i := 24) (some 64) HT_ (by kernel_rfl) rfl rfl (by decide) (fun K_ hK => ?_)
  refine call_ 24 #[.pointer (some ⟨pA, 0, none⟩)] (by rfl) rfl ?hrun24 ?_
  (case hrun24 => first | (go_simp; done) | (go_simp; exact enters Tryz.func24 (by kernel_rfl) rfl _ _))
  refine (ar_used _ W13.out.ar).mono ?_
  rintro e w14 ⟨rfl, rfl⟩
  rw [show Ws.ar { X with ar := X.ar } = X.ar from rfl, HF.out.used]
  refine ⟨_, rfl, ?_⟩
  refine hK.out _ _ ⟨(blk_cell (Y13.out.1) 0).trans rfl, (blk_cell (Y13.out.1) 1).trans rfl, (blk_cell (Y13.out.1) 2).trans rfl, (blk_cell (Y13.out.1) 3).trans rfl, (blk_cell (Y13.out.1) 4).trans rfl, (blk_cell (W13.out.box) 0).trans rfl, (blk_cell (W13.out.box) 1).trans rfl⟩ (fun hHeld => ?_)
  clear hK K_
  refine norm_ (a' := ?_) ?_ ?_
  rotate_left; · show Act.put _ (some 64) _ = _; simp only [Act.put, p1_, p2_, p3_, i64_w, i32_w]; rfl
  refine ordOne (i := 26) (some 66) HT_ (by kernel_rfl) rfl rfl (by decide) (fun K_ hK => ?_)
  refine call_ 25 #[.agg #[.bool s.f0, .bool s.f1, .slice A2 s.f2.length c2, .slice A3 s.f3.length c3, .slice A4 s.f4.length c4]] (by rfl) rfl ?hrun26 ?_
  (case hrun26 => first | (go_simp; done) | (go_simp; exact enters Tryz.func25 (by kernel_rfl) rfl _ _))
  refine (boscagelaw11_Shape_Many.calls k s.f0 s.f1 A2 c2 s.f2 A3 c3 s.f3 A4 c4 s.f4 m _ (KO K13.out).2.1 (KO K13.out).1 (KO K13.out).2.2.2.1 (KO K13.out).2.2.1 (KO K13.out).2.2.2.2.2 (KO K13.out).2.2.2.2.1 HF.out.many).mono ?_
  rintro e w14 ⟨rfl, hb⟩
  have W14 := Aside0.mk (W13.out.step hb.size (fun q _ hlt => hb.block q hlt))
  have B14 := Aside0.mk (below_then B13.out B13.out.size hb)
  have Y14 := Aside0.mk (Y13.out.moves (Moves.of_below _ hb))
  have K14 := Aside0.mk (FK_moves K13.out (Moves.of_below okS hb))
  clear hb W13 B13 Y13 K13
  refine ⟨_, rfl, ?_⟩
  refine hK.out _ _ ⟨(blk_cell (Y14.out.1) 0).trans rfl, (blk_cell (Y14.out.1) 1).trans rfl, (blk_cell (Y14.out.1) 2).trans rfl, (blk_cell (Y14.out.1) 3).trans rfl, (blk_cell (Y14.out.1) 4).trans rfl, (blk_cell (W14.out.box) 0).trans rfl, (blk_cell (W14.out.box) 1).trans rfl⟩ (fun hHeld => ?_)
  clear hK K_
  refine norm_ (a' := ?_) ?_ ?_
  rotate_left; · show Act.put _ (some 66) _ = _; simp only [Act.put, p1_, p2_, p3_, i64_w, i32_w]; rfl
  refine ord_ [(27, some 67), (28, some 68), (29, some 69), (30, some 70), (31, some 71), (32, some 72), (33, some 73), (34, some 74)] ?_
  iterate 7 (refine ordP (v := ?_) (a' := ?_) HT_ (by kernel_rfl) rfl rfl (fun _ _ _ h => h) (Or.inl ⟨by rfl, ?_⟩) ?_ ?_; rotate_left; (intro w'; go_simp; with_reducible rfl); rotate_left; (simp only [Act.put, p1_, p2_, p3_, i64_w, i32_w]; rfl))
  (refine ordT (v := ?_) (a' := ?_) HT_ HW_ (by kernel_rfl) rfl rfl (fun _ _ _ h => h) hHeld (Or.inl ⟨by rfl, ?_⟩) ?_ ?_; rotate_left; (rintro w' ⟨s0, s1, s2, s3, s4, s5, s6⟩; go_simp; with_reducible rfl); rotate_left; (simp only [Act.put, p1_, p2_, p3_, i64_w, i32_w]; rfl))
  refine ordNil ?_
  refine ordOne (i := 35) (some 75) HT_ (by kernel_rfl) rfl rfl (by decide) (fun K_ hK => ?_)
  refine call_ 26 #[.pointer (some ⟨pR, 0, none⟩)] (by rfl) rfl ?hrun35 ?_
  (case hrun35 => first | (go_simp; done) | (go_simp; exact enters Tryz.func26 (by kernel_rfl) rfl _ _))
  refine (tb_len _ W14.out.tb).mono ?_
  rintro e w15 ⟨rfl, rfl⟩
  rw [show Tb.l (Ws.tb { X with ar := X.ar }) = X.tb.l from rfl, HF.out.recs]
  refine ⟨_, rfl, ?_⟩
  refine hK.out _ _ ⟨(blk_cell (Y14.out.1) 0).trans rfl, (blk_cell (Y14.out.1) 1).trans rfl, (blk_cell (Y14.out.1) 2).trans rfl, (blk_cell (Y14.out.1) 3).trans rfl, (blk_cell (Y14.out.1) 4).trans rfl, (blk_cell (W14.out.box) 0).trans rfl, (blk_cell (W14.out.box) 1).trans rfl⟩ (fun hHeld => ?_)
  clear hK K_
  refine norm_ (a' := ?_) ?_ ?_
  rotate_left; · show Act.put _ (some 75) _ = _; simp only [Act.put, p1_, p2_, p3_, i64_w, i32_w]; rfl
  refine ord_ [(36, some 76), (37, some 77), (38, some 6)] ?_
  iterate 3 (refine ordP (v := ?_) (a' := ?_) HT_ (by kernel_rfl) rfl rfl (fun _ _ _ h => h) (Or.inl ⟨by rfl, ?_⟩) ?_ ?_; rotate_left; (intro w'; go_simp; with_reducible rfl); rotate_left; (simp only [Act.put, p1_, p2_, p3_, i64_w, i32_w]; rfl))
  refine ordNil ?_
  refine done_ (done_of HT_.out (by kernel_rfl)) ?_
  go_wp2_with fail
  go_ret
  exact ⟨rfl, B14.out⟩
set_option maxHeartbeats 4000000 in
set_option maxRecDepth 100000 in
theorem right_short (A : Option Addr) (c : Nat) (keys : List Int) (b0 key : Int) (w : World) (h : 60 < keys.length) :
    Calls Tryz.prog 3 #[.slice A keys.length c, .int .u8 b0, .int .i64 key] w fun e w1 => e = .returned (.bool true) ∧ Below w.heap.size w w1 := by
  have d60 : decide ((keys.length : Int) > 60) = true := decide_eq_true (by omega)
  have d61 : decide (60 < keys.length) = true := decide_eq_true h
  clear h
  go_enter Tryz.func3, Tryz.ntmps3
  go_upto_region 3 with (go_at_call 13; refine (awake14 _).mono ?_; rintro e w2 ⟨rfl, hb⟩; have B2 := Aside0.mk hb; clear hb)
  go_wp2_with fail
  go_ret
  exact ⟨rfl, B2.out⟩
mutual
def manyT : Sh → Nat
  | ⟨_, _, _, _, kids⟩ => 1 + manyL kids
def manyL : List Sh → Nat
  | [] => 0
  | k :: r => manyT k + manyL r
end
mutual
def deepT : Sh → Nat
  | ⟨_, _, _, _, kids⟩ => deepL kids
def deepL : List Sh → Nat
  | [] => 0
  | k :: r => max (deepT k + 1) (deepL r)
end
mutual
def slimT : Sh → Prop
  | ⟨_, _, ps, ks, kids⟩ => ps.length ≤ 60 ∧ ks.length ≤ 60 ∧ kids.length ≤ 60 ∧ slimL kids
def slimL : List Sh → Prop
  | [] => True
  | k :: r => slimT k ∧ slimL r
end
theorem manyT_eq (s : Sh) : manyT s = 1 + manyL s.f4 := by cases s; rw [manyT]
theorem deepT_eq (s : Sh) : deepT s = deepL s.f4 := by cases s; rw [deepT]
theorem slimT_eq (s : Sh) : slimT s ↔ s.f2.length ≤ 60 ∧ s.f3.length ≤ 60 ∧ s.f4.length ≤ 60 ∧ slimL s.f4 := by cases s; rw [slimT]
theorem manyL_append : ∀ a b : List Sh, manyL (a ++ b) = manyL a + manyL b
  | [], b => by simp [manyL]
  | k :: r, b => by rw [List.cons_append, manyL, manyL, manyL_append r b]; omega
theorem deepL_append : ∀ a b : List Sh, deepL (a ++ b) = max (deepL a) (deepL b)
  | [], b => by simp [deepL]
  | k :: r, b => by rw [List.cons_append, deepL, deepL, deepL_append r b]; omega
theorem slimL_append : ∀ a b : List Sh, slimL (a ++ b) ↔ slimL a ∧ slimL b
  | [], b => by simp [slimL]
  | k :: r, b => by rw [List.cons_append, slimL, slimL, slimL_append r b, and_assoc]
theorem seg_split {α : Type} (row : List α) (i n : Nat) : row.drop i = (row.take (i + n)).drop i ++ row.drop (i + n) := by
  rw [List.drop_take, Nat.add_sub_cancel_left, ← List.drop_drop, List.take_append_drop]
theorem upRow_many (row : List Sh) (fs : List Int) : ∀ (ns : List Nat) (i : Nat), i + ns.sum = row.length → manyL (upRow row fs i ns) = ns.length + manyL (row.drop i)
  | [], i, h => by
    rw [List.sum_nil, Nat.add_zero] at h
    rw [upRow, List.drop_of_length_le (by omega)]
    rfl
  | n :: ns, i, h => by
    rw [List.sum_cons] at h
    rw [upRow, manyL, upRow_many row fs ns (i + n) (by omega), manyT_eq, seg_split row i n, manyL_append, List.length_cons]
    show 1 + manyL ((row.take (i + n)).drop i) + (ns.length + manyL (row.drop (i + n))) = _
    omega
theorem upRow_deep (row : List Sh) (fs : List Int) : ∀ (ns : List Nat) (i : Nat), deepL (upRow row fs i ns) ≤ deepL (row.drop i) + 1
  | [], i => by rw [upRow]; exact Nat.zero_le _
  | n :: ns, i => by
    have h := upRow_deep row fs ns (i + n)
    rw [upRow, deepL, deepT_eq, seg_split row i n, deepL_append]
    show max (deepL ((row.take (i + n)).drop i) + 1) _ ≤ _
    omega
theorem upRow_slim (row : List Sh) (fs : List Int) : ∀ (ns : List Nat) (i : Nat), (∀ n ∈ ns, n ≤ 60) → slimL (row.drop i) → slimL (upRow row fs i ns)
  | [], i, _, _ => by rw [upRow]; trivial
  | n :: ns, i, hn, h => by
    rw [seg_split row i n, slimL_append] at h
    have h1 := hn n List.mem_cons_self
    rw [upRow, slimL, slimT_eq]
    refine ⟨⟨by show (0 : Nat) ≤ 60; omega, ?_, ?_, h.1⟩, upRow_slim row fs ns (i + n) (fun x hx => hn x (List.mem_cons_of_mem _ hx)) h.2⟩
    · show ((fs.take (i + n)).drop (i + 1)).length ≤ 60
      rw [List.length_drop, List.length_take]
      omega
    · show ((row.take (i + n)).drop i).length ≤ 60
      rw [List.length_drop, List.length_take]
      omega
theorem head_le (row : List Sh) (h : row ≠ []) : manyT (row.headD zSh) ≤ manyL row ∧ deepT (row.headD zSh) + 1 ≤ deepL row ∧ (slimL row → slimT (row.headD zSh)) := by
  cases row with
  | nil => exact absurd rfl h
  | cons k r => rw [manyL, deepL, slimL]; exact ⟨by show manyT k ≤ _; omega, by show deepT k + 1 ≤ _; omega, fun h => h.1⟩
theorem evenUp_good (b : Nat) (hb : 3 ≤ b) (hb8 : b ≤ 8) : ∀ (f : Nat) (row : List Sh) (fs : List Int), row ≠ [] → row.length ≤ 60 → slimL row → manyT (evenUp b f row fs) ≤ manyL row + row.length * row.length ∧ deepT (evenUp b f row fs) + 1 ≤ deepL row + row.length ∧ slimT (evenUp b f row fs)
  | 0, row, fs, h0, h1, h2 => by
    obtain ⟨a1, a2, a3⟩ := head_le row h0
    rw [evenUp]
    exact ⟨by omega, by omega, a3 h2⟩
  | f + 1, row, fs, h0, h1, h2 => by
    rw [evenUp]
    by_cases hl : 1 < row.length
    · rw [if_pos hl]
      obtain ⟨p1, p2, p3, p4, _⟩ := parts_good row.length b h1 hb hb8
      generalize partsN row.length b = ns at p1 p2 p3 p4
      have hns : ns ≠ [] := fun e => by subst e; simp at p1; omega
      have hlen := upRow_length row fs ns 0
      have hm := upRow_many row fs ns 0 (by omega)
      have hd := upRow_deep row fs ns 0
      have hsl := upRow_slim row fs ns 0 (fun n hn => by have := (p2 n hn).2; omega) (by rw [List.drop_zero]; exact h2)
      rw [List.drop_zero] at hm hd
      have p5 := p3 hl
      obtain ⟨q1, q2, q3⟩ := evenUp_good b hb hb8 f (upRow row fs 0 ns) (upKey fs 0 ns) (fun e => hns (List.eq_nil_of_length_eq_zero (by rw [← hlen, e]; rfl))) (by omega) hsl
      rw [hlen] at q1 q2
      rw [hm] at q1
      have hsq : ns.length * ns.length + ns.length ≤ row.length * row.length := by
        have := Nat.mul_le_mul (show ns.length ≤ row.length by omega) (show ns.length + 1 ≤ row.length by omega)
        rw [Nat.mul_add, Nat.mul_one] at this
        exact this
      exact ⟨by omega, by omega, q3⟩
    · rw [if_neg hl]
      obtain ⟨a1, a2, a3⟩ := head_le row h0
      exact ⟨by omega, by omega, a3 h2⟩
theorem leafRow_good : ∀ (ns : List Nat) (xs : List Pr2), (∀ n ∈ ns, n ≤ 60) → manyL (leafRow xs ns) = ns.length ∧ deepL (leafRow xs ns) ≤ 1 ∧ slimL (leafRow xs ns)
  | [], xs, _ => ⟨rfl, Nat.zero_le _, trivial⟩
  | n :: ns, xs, hn => by
    obtain ⟨a1, a2, a3⟩ := leafRow_good ns (xs.drop n) (fun x hx => hn x (List.mem_cons_of_mem _ hx))
    have h1 := hn n List.mem_cons_self
    rw [leafRow, manyL, deepL, slimL, manyT_eq, deepT_eq, slimT_eq, a1]
    refine ⟨by simp [manyL]; omega, by simp [deepL]; omega, ⟨?_, by simp, by simp, trivial⟩, a3⟩
    show (xs.take n).length ≤ 60
    rw [List.length_take]
    omega
theorem mono_le {α : Type} {f : Nat → Option α} (hm : ∀ k, LeO (f k) (f (k + 1))) : ∀ {k j : Nat} {r : α}, k ≤ j → f k = some r → f j = some r := by
  intro k j r hkj h
  induction j with
  | zero => rw [show k = 0 by omega] at h; exact h
  | succ j ih =>
    by_cases hk : k ≤ j
    · exact hm j r (ih hk)
    · rw [show j + 1 = k by omega]; exact h
def ManyOk (k : Nat) (s : Sh) : Prop := boscagelaw11_Shape_Many.f k s.f0 s.f1 s.f2 s.f3 s.f4 = some (manyT s : Int)
theorem rd_T_at {l : List Sh} {i : Nat} {k : Sh} (h : l[i]? = some k) : rd_T29 l (i : Int) = k := by
  unfold rd_T29
  simp [List.getD_eq_getElem?_getD, h]
theorem many_loop (l : List Sh) (hl : l.length ≤ 60) (k : Nat) (hk : ∀ s ∈ l, ManyOk k s) : ∀ (n i : Nat) (acc : Nat), i + n = l.length → acc + manyL (l.drop i) < 1000000 → boscagelaw11_Shape_Many.l0 (k + n + 1) (acc : Int) l (l.length : Int) (i : Int) = some ((acc + manyL (l.drop i) : Nat) : Int)
  | 0, i, acc, h, hm => by
    unfold boscagelaw11_Shape_Many.l0
    rw [if_neg (by omega), List.drop_of_length_le (by omega)]
    rfl
  | n + 1, i, acc, h, hm => by
    have hi : i < l.length := by omega
    have hg : l[i]? = some l[i] := List.getElem?_eq_getElem hi
    have hd : l.drop i = l[i] :: l.drop (i + 1) := List.drop_eq_getElem_cons hi
    rw [hd, manyL] at hm ⊢
    have h1 : ManyOk (k + n + 1) l[i] := mono_le (fun j => boscagelaw11_Shape_Many.mono _ _ _ _ _ j) (by omega) (hk _ (List.getElem_mem hi))
    unfold boscagelaw11_Shape_Many.l0
    rw [if_pos (by omega), if_pos (by omega), if_pos (by omega), rd_T_at hg]
    rw [show boscagelaw11_Shape_Many.f (k + (n + 1)) l[i].f0 l[i].f1 l[i].f2 l[i].f3 l[i].f4 = some (manyT l[i] : Int) from h1]
    rw [Option.bind_some, show wrap64 ((acc : Int) + (manyT l[i] : Int)) = ((acc + manyT l[i] : Nat) : Int) from by unfold wrap64; omega, show wrap64 ((i : Int) + 1) = ((i + 1 : Nat) : Int) from by unfold wrap64; omega]
    rw [show k + (n + 1) = k + n + 1 from rfl, many_loop l hl k hk n (i + 1) (acc + manyT l[i]) (by omega) (by omega)]
    rw [Nat.add_assoc]
theorem many_ok : ∀ (d : Nat) (s : Sh), deepT s ≤ d → slimT s → manyT s < 1000000 → ManyOk (62 * (d + 1)) s := by
  intro d
  induction d with
  | zero =>
    intro s hd hs hm
    have hk : s.f4 = [] := by
      rw [deepT_eq] at hd
      cases h : s.f4 with
      | nil => rfl
      | cons k r => rw [h, deepL] at hd; omega
    unfold ManyOk boscagelaw11_Shape_Many.f
    rw [manyT_eq, hk]
    unfold boscagelaw11_Shape_Many.l0
    rfl
  | succ d ih =>
    intro s hd hs hm
    rw [deepT_eq] at hd
    rw [slimT_eq] at hs
    rw [manyT_eq] at hm
    have hall : ∀ (l : List Sh), deepL l ≤ d + 1 → slimL l → manyL l < 1000000 → ∀ q ∈ l, ManyOk (62 * (d + 1)) q := by
      intro l
      induction l with
      | nil => intro _ _ _ q hq; cases hq
      | cons k r ihr =>
        intro h1 h2 h3 q hq
        rw [deepL] at h1
        rw [slimL] at h2
        rw [manyL] at h3
        rcases List.mem_cons.1 hq with rfl | hq
        · exact ih _ (by omega) h2.1 (by omega)
        · exact ihr (by omega) h2.2 (by omega) q hq
    have h1 := many_loop s.f4 hs.2.2.1 (62 * (d + 1)) (hall s.f4 (by omega) hs.2.2.2 (by omega)) s.f4.length 0 1 (by omega) (by rw [List.drop_zero]; omega)
    rw [List.drop_zero] at h1
    have h2 : ManyOk (62 * (d + 1) + s.f4.length + 2) s := by
      unfold ManyOk
      rw [manyT_eq]
      show boscagelaw11_Shape_Many.f (62 * (d + 1) + s.f4.length + 1 + 1) _ _ _ _ _ = _
      unfold boscagelaw11_Shape_Many.f
      exact h1
    exact mono_le (fun j => boscagelaw11_Shape_Many.mono _ _ _ _ _ j) (by have := hs.2.2.1; omega) h2
def SameOk (k : Nat) (s : Sh) : Prop := boscagelaw11_Same.f k s.f0 s.f1 s.f2 s.f3 s.f4 s.f0 s.f1 s.f2 s.f3 s.f4 = some true
theorem SameOk.up {k j : Nat} {s : Sh} (h : SameOk k s) (hk : k ≤ j) : SameOk j s := mono_le (fun i => boscagelaw11_Same.mono _ _ _ _ _ _ _ _ _ _ i) hk h
theorem same_kids (b0 b1 : Bool) (ps : List Pr2) (ks : List Int) (l : List Sh) (hl : l.length ≤ 60) (k : Nat) (hk : ∀ s ∈ l, SameOk k s) : ∀ (n i : Nat), i + n = l.length → boscagelaw11_Same.l1 (k + n + 1) (l.length : Int) (i : Int) b0 b1 ps ks l b0 b1 ps ks l = some true
  | 0, i, h => by
    unfold boscagelaw11_Same.l1
    rw [if_neg (by omega)]
  | n + 1, i, h => by
    have hi : i < l.length := by omega
    have hg : l[i]? = some l[i] := List.getElem?_eq_getElem hi
    have h1 : SameOk (k + (n + 1)) l[i] := (hk _ (List.getElem_mem hi)).up (by omega)
    unfold boscagelaw11_Same.l1
    rw [if_pos (by omega), if_pos (by omega), if_pos (by omega), if_pos (by omega), rd_T_at hg]
    rw [show boscagelaw11_Same.f (k + (n + 1)) l[i].f0 l[i].f1 l[i].f2 l[i].f3 l[i].f4 l[i].f0 l[i].f1 l[i].f2 l[i].f3 l[i].f4 = some true from h1]
    rw [Option.bind_some, if_pos rfl, show wrap64 ((i : Int) + 1) = ((i + 1 : Nat) : Int) from by unfold wrap64; omega]
    exact same_kids b0 b1 ps ks l hl k hk n (i + 1) (by omega)
theorem same_keys (b0 b1 : Bool) (ps : List Pr2) (ks : List Int) (l : List Sh) (hl : ks.length ≤ 60) (k : Nat) (hk : boscagelaw11_Same.l1 k (l.length : Int) 0 b0 b1 ps ks l b0 b1 ps ks l = some true) : ∀ (n i : Nat), i + n = ks.length → boscagelaw11_Same.l0 (k + n + 1) (ks.length : Int) (i : Int) b0 b1 ps ks l b0 b1 ps ks l = some true
  | 0, i, h => by
    unfold boscagelaw11_Same.l0
    rw [if_neg (by omega)]
    exact hk
  | n + 1, i, h => by
    unfold boscagelaw11_Same.l0
    rw [if_pos (by omega), if_pos (by omega), if_pos (by omega), if_pos (by omega), if_pos rfl, show wrap64 ((i : Int) + 1) = ((i + 1 : Nat) : Int) from by unfold wrap64; omega]
    exact same_keys b0 b1 ps ks l hl k hk n (i + 1) (by omega)
theorem same02_self (l : List S106) (hl : l.length < 1000000) : ∀ (d k i : Nat), i + d = l.length → d < k → boscagelaw02_Same.l0 k l l (l.length : Int) (i : Int) = some true
  | 0, k + 1, i, h, hk => by
    unfold boscagelaw02_Same.l0
    rw [if_neg (by omega)]
  | d + 1, k + 1, i, h, hk => by
    unfold boscagelaw02_Same.l0
    rw [if_pos (by omega), if_pos (by omega), if_pos (by omega), if_pos (by omega), if_neg (by simp)]
    have w1 : wrap64 ((i : Int) + 1) = ((i + 1 : Nat) : Int) := by unfold wrap64; omega
    rw [w1]
    exact same02_self l hl d k (i + 1) (by omega) (by omega)
theorem same02_f (l : List Pr2) (k : Nat) (hl : l.length < 1000000) (hk : l.length < k) : boscagelaw02_Same.f k l l = some true := by
  unfold boscagelaw02_Same.f
  rw [if_pos rfl]
  have := same02_self l hl l.length k 0 (by omega) hk
  rw [Int.natCast_zero] at this
  exact this
theorem same_node (s : Sh) (hs : slimT s) (k : Nat) (hk : ∀ q ∈ s.f4, SameOk k q) : SameOk (k + s.f4.length + s.f3.length + 70) s := by
  rw [slimT_eq] at hs
  have h1 := same_kids s.f0 s.f1 s.f2 s.f3 s.f4 hs.2.2.1 k hk s.f4.length 0 (by omega)
  rw [Int.natCast_zero] at h1
  have h2 := same_keys s.f0 s.f1 s.f2 s.f3 s.f4 hs.2.1 _ h1 s.f3.length 0 (by omega)
  rw [Int.natCast_zero] at h2
  have h3 : boscagelaw11_Same.l0 (k + s.f4.length + s.f3.length + 68) (s.f3.length : Int) 0 s.f0 s.f1 s.f2 s.f3 s.f4 s.f0 s.f1 s.f2 s.f3 s.f4 = some true := mono_le (fun j => (boscagelaw11_Same.mono_l j).2.2.1 _ _ _ _ _ _ _ _ _ _ _ _) (by omega) h2
  unfold SameOk
  show boscagelaw11_Same.f (k + s.f4.length + s.f3.length + 69 + 1) _ _ _ _ _ _ _ _ _ _ = _
  unfold boscagelaw11_Same.f
  rw [if_neg (by simp), if_neg (by simp), same02_f _ _ (by omega) (by omega), Option.bind_some, if_pos rfl, if_pos rfl]
  show boscagelaw11_Same.j0 (k + s.f4.length + s.f3.length + 68 + 1) _ _ _ _ _ _ _ _ _ _ _ = _
  unfold boscagelaw11_Same.j0
  rw [if_neg (by simp)]
  exact h3
theorem same_ok : ∀ (d : Nat) (s : Sh), deepT s ≤ d → slimT s → SameOk (200 * (d + 1)) s := by
  intro d
  induction d with
  | zero =>
    intro s hd hs
    have hk : s.f4 = [] := by
      rw [deepT_eq] at hd
      cases h : s.f4 with
      | nil => rfl
      | cons k r => rw [h, deepL] at hd; omega
    have hs' := (slimT_eq s).1 hs
    exact (same_node s hs 0 (by rw [hk]; intro q hq; cases hq)).up (by omega)
  | succ d ih =>
    intro s hd hs
    have hs' := (slimT_eq s).1 hs
    rw [deepT_eq] at hd
    have hall : ∀ (l : List Sh), deepL l ≤ d + 1 → slimL l → ∀ q ∈ l, SameOk (200 * (d + 1)) q := by
      intro l
      induction l with
      | nil => intro _ _ q hq; cases hq
      | cons k r ihr =>
        intro h1 h2 q hq
        rw [deepL] at h1
        rw [slimL] at h2
        rcases List.mem_cons.1 hq with rfl | hq
        · exact ih _ (by omega) h2.1
        · exact ihr (by omega) h2.2 q hq
    exact (same_node s hs (200 * (d + 1)) (hall s.f4 hd hs'.2.2.2)).up (by omega)
theorem put_some (x1 x2 : Int) (l : List Pr2) (hl : l.length < 1000) : ∀ (n i : Nat) (b : Bool) (acc : List Pr2), i + n = l.length → acc.length ≤ i + (if b then 1 else 0) → ∃ r, boscagelaw02_Put.l0 (2 * n + 2) x1 x2 acc b l (l.length : Int) (i : Int) = some r ∧ r.length ≤ l.length + 1
  | 0, i, b, acc, h, ha => by
    unfold boscagelaw02_Put.l0
    rw [if_neg (by omega)]
    cases b with
    | true => rw [if_pos rfl]; exact ⟨acc, rfl, by simp at ha; omega⟩
    | false =>
      simp only [Bool.false_eq_true, if_false, Nat.add_zero] at ha ⊢
      rw [if_pos (by omega)]
      exact ⟨_, rfl, by simp; omega⟩
  | n + 1, i, b, acc, h, ha => by
    have hw : wrap64 ((i : Int) + 1) = ((i + 1 : Nat) : Int) := by unfold wrap64; omega
    have hj : ∀ (c : Bool) (p0 p1 : Int), (b = true → c = false) → ∃ r, boscagelaw02_Put.j1 (2 * n + 3) x1 x2 acc b l (l.length : Int) (i : Int) c p0 p1 = some r ∧ r.length ≤ l.length + 1 := by
      intro c p0 p1 hbc
      have hacc : acc.length < 8796093022208 := by split at ha <;> omega
      unfold boscagelaw02_Put.j1
      cases c with
      | true =>
        have hb : b = false := by cases b with
          | false => rfl
          | true => exact absurd (hbc rfl) (by simp)
        subst hb
        simp only [Bool.false_eq_true, if_false, Nat.add_zero] at ha
        rw [if_pos rfl, if_pos hacc, Option.bind_some]
        by_cases hp : p0 = x1
        · rw [if_pos hp, hw]
          exact put_some x1 x2 l hl n (i + 1) true _ (by omega) (by simp; omega)
        · rw [if_neg hp, if_pos (by simp; omega), hw]
          exact put_some x1 x2 l hl n (i + 1) true _ (by omega) (by simp; omega)
      | false =>
        rw [if_neg (by simp)]
        by_cases hp : p0 = x1
        · rw [if_pos hp, hw]
          exact put_some x1 x2 l hl n (i + 1) b _ (by omega) (by split at ha <;> simp_all <;> omega)
        · rw [if_neg hp, if_pos hacc, hw]
          exact put_some x1 x2 l hl n (i + 1) b _ (by omega) (by rw [List.length_append, List.length_singleton]; split at ha <;> simp_all <;> omega)
    show ∃ r, boscagelaw02_Put.l0 (2 * n + 3 + 1) _ _ _ _ _ _ _ = some r ∧ _
    unfold boscagelaw02_Put.l0
    rw [if_pos (by omega), if_pos (by omega), if_pos (by omega)]
    cases b with
    | true => rw [if_pos rfl]; exact hj _ _ _ (fun _ => rfl)
    | false => rw [if_neg (by simp)]; exact hj _ _ _ (fun h => by cases h)
theorem put_f (l : List Pr2) (x1 x2 : Int) (hl : l.length < 60) : ∃ r, boscagelaw02_Put.f 130 l x1 x2 = some r ∧ r.length ≤ l.length + 1 := by
  obtain ⟨r, h1, h2⟩ := put_some x1 x2 l (by omega) l.length 0 false [] (by omega) (by simp)
  refine ⟨r, ?_, h2⟩
  unfold boscagelaw02_Put.f
  rw [Int.natCast_zero] at h1
  exact mono_le (fun j => (boscagelaw02_Put.mono_l j).1 _ _ _ _ _ _ _) (by omega) h1
theorem rising_some (ks : List Int) (hl : ks.length ≤ 60) : ∀ (n i : Nat) (acc : List Pr2), i + n = ks.length → acc.length ≤ i → ∃ r, boscagelaw02_Rising.l0 (130 + n + 1) acc ks (ks.length : Int) (i : Int) = some r ∧ r.length ≤ ks.length
  | 0, i, acc, h, ha => by
    unfold boscagelaw02_Rising.l0
    rw [if_neg (by omega)]
    exact ⟨acc, rfl, by omega⟩
  | n + 1, i, acc, h, ha => by
    unfold boscagelaw02_Rising.l0
    rw [if_pos (by omega), if_pos (by omega), if_pos (by omega)]
    obtain ⟨r, h1, h2⟩ := put_f acc (rd ks (i : Int)) (wrap64 ((i : Int) + 100)) (by omega)
    rw [show boscagelaw02_Put.f (130 + (n + 1)) acc (rd ks (i : Int)) (wrap64 ((i : Int) + 100)) = some r from mono_le (fun j => boscagelaw02_Put.mono _ _ _ j) (by omega) h1, Option.bind_some, show wrap64 ((i : Int) + 1) = ((i + 1 : Nat) : Int) from by unfold wrap64; omega]
    exact rising_some ks hl n (i + 1) r (by omega) (by omega)
theorem wide_f (b : Int) (h0 : 0 ≤ b) (h1 : b < 256) : ∃ wd : Nat, boscagelaw11_Wide.f b = some (wd : Int) ∧ 3 ≤ wd ∧ wd ≤ 8 := by
  obtain ⟨n, rfl⟩ := Int.eq_ofNat_of_zero_le h0
  refine ⟨3 + n % 6, ?_, by omega, by omega⟩
  unfold boscagelaw11_Wide.f
  rw [show wrap64 (n : Int) = (n : Int) from by unfold wrap64; omega, show Int.tmod (n : Int) 6 = ((n % 6 : Nat) : Int) from rfl]
  congr 1
  unfold wrap64
  omega
end Go.Proofs.YtelmidpepojbdaaGreat.Tower
namespace Go.Proofs.YtelmidpepojbdaaGreat.Tower
def qRoot : Int := 1099511627777
def qEntry : Int := 1099511627778
end Go.Proofs.YtelmidpepojbdaaGreat.Tower
namespace Go.Proofs.YtelmidpepojbdaaGreat.Tower
open Go Go.RowKit Go.Proofs.YtelmidpepojbdaaGreatW.PrintWords Go.Proofs.YtelmidpepojbdaaGreatW.PrintLast Go.Proofs.YtelmidpepojbdaaGreatW.PrintMore Go.Proofs.YtelmidpepojbdaaGreat.Own Go.Proofs.YtelmidpepojbdaaGreat.PMendRight
set_option linter.unusedVariables false
set_option linter.unusedSimpArgs false
structure Leads (sl : List Sl) (r : Int) (q : Sl) : Prop where
  out : ∃ j : Nat, placeOf r = (j : Int) ∧ sl[j]? = some q ∧ q.used = true ∧ refOf j q.count = r
theorem Leads.idx {a : Ar} {r : Int} {q : Sl} (h : Leads a.slots r q) : ∃ j, a.idx r = some j ∧ a.slots[j]? = some q ∧ placeOf r = (j : Int) := by
  obtain ⟨j, h1, h2, h3, h4⟩ := h.out
  refine ⟨j, ?_, h2, h1⟩
  unfold Ar.idx
  rw [h1, if_neg (by omega), Int.toNat_natCast, h2]
  simp only
  rw [if_pos h3, if_pos h4]
theorem Leads.look {a : Ar} {r : Int} {q : Sl} (h : Leads a.slots r q) : a.look r = (q.node, a) := by
  obtain ⟨j, h1, h2, _⟩ := h.idx
  unfold Ar.look
  rw [h1]
  simp only
  rw [h2]
theorem Leads.way {a : Ar} {r : Int} {q : Sl} (h : Leads a.slots r q) (i : Nat) (hi : i < q.ways.length) : a.way r (i : Int) = (q.ways.getD i 0, a) := by
  obtain ⟨j, h1, h2, _⟩ := h.idx
  unfold Ar.way
  rw [h1]
  simp only
  rw [h2]
  simp only
  rw [if_neg (by omega), if_neg (by omega), Int.toNat_natCast]
mutual
def isT : Sh → List Sl → Int → Prop
  | ⟨l, t, ps, ks, kids⟩, sl, r => ∃ ws q, Leads sl r q ∧ q.node = ndSh ⟨l, t, ps, ks, kids⟩ ws ∧ q.ways = ws ∧ isL kids sl ws
def isL : List Sh → List Sl → List Int → Prop
  | [], _, ws => ws = []
  | k :: r, sl, ws => ∃ x ws1, ws = x :: ws1 ∧ isT k sl x ∧ isL r sl ws1
end
theorem isT_eq (s : Sh) (sl : List Sl) (r : Int) : isT s sl r ↔ ∃ ws q, Leads sl r q ∧ q.node = ndSh s ws ∧ q.ways = ws ∧ isL s.f4 sl ws := by cases s; rw [isT]
theorem prs12 (l : List Pr2) : prs1 (prs2 l) = l := by
  unfold prs1 prs2
  rw [List.map_map]
  exact List.map_id'' (fun q => rfl) l
theorem shN_nd (s : Sh) (ws : List Int) : shN (ndSh s ws) s.f4 = s := by
  cases s with
  | mk l t ps ks kids =>
    unfold shN ndSh
    simp [prs12]
theorem readL_is (d : Nat) (ih : ∀ (s : Sh) (a : Ar) (r : Int), deepT s ≤ d → isT s a.slots r → readT d r a = (s, a)) (a : Ar) (r : Int) (q : Sl) (hq : Leads a.slots r q) : ∀ (kids : List Sh) (ws : List Int) (i : Nat), q.ways.drop i = ws → isL kids a.slots ws → deepL kids ≤ d + 1 → readL (readT d) r i ws.length a = (kids, a)
  | [], ws, i, h, hl, hd => by
    rw [isL] at hl
    subst hl
    rfl
  | k :: ks, ws, i, h, hl, hd => by
    rw [isL] at hl
    obtain ⟨x, ws1, rfl, h1, h2⟩ := hl
    rw [deepL] at hd
    have hi : i < q.ways.length := by
      have := congrArg List.length h
      rw [List.length_drop, List.length_cons] at this
      omega
    have hx : q.ways.getD i 0 = x := by
      have := congrArg (fun l => l[0]?) h
      simp only [List.getElem?_drop, Nat.add_zero, List.getElem?_cons_zero] at this
      rw [List.getD_eq_getElem?_getD, this]
      rfl
    have hw := hq.way i hi
    rw [hx] at hw
    rw [List.length_cons, readL, hw]
    simp only
    rw [ih k a x (by omega) h1]
    simp only
    rw [readL_is d ih a r q hq ks ws1 (i + 1) (by rw [← List.drop_drop, h]; rfl) h2 (by omega)]
theorem read_is : ∀ (d : Nat) (s : Sh) (a : Ar) (r : Int), deepT s ≤ d → isT s a.slots r → readT d r a = (s, a) := by
  intro d
  induction d with
  | zero =>
    intro s a r hd h
    obtain ⟨ws, q, h1, h2, h3, h4⟩ := (isT_eq s a.slots r).1 h
    have hk : s.f4 = [] := by
      rw [deepT_eq] at hd
      cases h : s.f4 with
      | nil => rfl
      | cons k r => rw [h, deepL] at hd; omega
    rw [readT, h1.look, h2]
    have := shN_nd s ws
    rw [hk] at this
    simp only [this]
  | succ d ih =>
    intro s a r hd h
    obtain ⟨ws, q, h1, h2, h3, h4⟩ := (isT_eq s a.slots r).1 h
    rw [deepT_eq] at hd
    have hl := readL_is d ih a r q h1 s.f4 ws 0 (by rw [h3]; rfl) h4 hd
    rw [readT, h1.look, h2]
    simp only
    rw [show (ndSh s ws).ways.length = ws.length from rfl, hl]
    simp only [shN_nd]
set_option maxRecDepth 100000 in
theorem place_all : ∀ i : Fin 1001, placeOf (refOf (i.val : Int) 1) = (i.val : Int) := by decide +kernel
theorem alloc_fresh (n : Nd) (a : Ar) (h : a.free = []) (hu : a.used = (a.slots.length : Int)) (hl : a.slots.length ≤ 1000) (hm : (a.slots.length : Int) < a.most) :
    a.alloc n = some ((refOf (a.slots.length : Int) 1, true), { a with slots := a.slots ++ [slotOf n 1], used := a.used + 1 }) := by
  unfold Ar.alloc
  rw [if_neg (by omega)]
  have ht : a.take = some (a.slots.length, { a with slots := a.slots ++ [sl0] }) := by unfold Ar.take; rw [h]
  rw [ht]
  simp only
  rw [List.getElem?_append_right (Nat.le_refl _), Nat.sub_self]
  simp only [List.getElem?_cons_zero]
  have hw : wrap64 (a.used + 1) = a.used + 1 := by unfold wrap64; omega
  unfold Ar.put
  simp only [show u32w (sl0.count + 1) = 1 from rfl, hw]
  rw [List.set_append_right _ _ (Nat.le_refl _), Nat.sub_self]
  rfl
def grow (a : Ar) (new : List Sl) : Ar := { a with slots := a.slots ++ new, used := a.used + (new.length : Int) }
def Fits1 (new : List Sl) : Prop := ∀ q ∈ new, q.node.Small ∧ q.ways.length < 1000000
def Sees (a : Ar) (new sl : List Sl) : Prop := ∀ j, a.slots.length ≤ j → j < a.slots.length + new.length → sl[j]? = (a.slots ++ new)[j]?
mutual
theorem madeT_ok : ∀ (s : Sh) (a : Ar), slimT s → a.free = [] → a.used = (a.slots.length : Int) → a.slots.length + manyT s ≤ 1000 → ((a.slots.length + manyT s : Nat) : Int) ≤ a.most → ∃ r new, madeT s a = some (r, grow a new) ∧ new.length = manyT s ∧ Fits1 new ∧ ∀ sl, Sees a new sl → isT s sl r
  | ⟨l, t, ps, ks, kids⟩, a, hs, hf, hu, h1, hm => by
    rw [slimT] at hs
    rw [manyT] at h1 hm
    obtain ⟨ws, nl, e1, e2, e3, e4, e5⟩ := madeL_ok kids a hs.2.2.2 hf hu (by omega) (by omega)
    have hal := alloc_fresh (ndSh ⟨l, t, ps, ks, kids⟩ ws) (grow a nl) hf (by show a.used + (nl.length : Int) = ((a.slots ++ nl).length : Int); rw [List.length_append, hu]; omega) (by show (a.slots ++ nl).length ≤ 1000; rw [List.length_append]; omega) (by show ((a.slots ++ nl).length : Int) < a.most; rw [List.length_append]; omega)
    have hlen : (grow a nl).slots.length = a.slots.length + nl.length := List.length_append
    have hnp : (ndSh ⟨l, t, ps, ks, kids⟩ ws).pairs.length < 1000000 := by show (prs2 ps).length < _; rw [prs2_length]; omega
    refine ⟨refOf ((a.slots.length + nl.length : Nat) : Int) 1, nl ++ [slotOf (ndSh ⟨l, t, ps, ks, kids⟩ ws) 1], ?_, ?_, ?_, ?_⟩
    · rw [madeT_eq, e1, Option.bind_some]
      unfold madeN
      rw [if_pos ⟨by rw [hlen]; omega, hnp, by show ks.length < _; omega, by show ws.length < _; omega⟩, hal, Option.map_some, hlen]
      unfold grow
      simp only [List.append_assoc, List.length_append, List.length_singleton]
      congr 2
      simp only [Ar.mk.injEq, true_and, and_true]
      omega
    · rw [List.length_append, List.length_singleton, manyT, e2]; omega
    · intro q hq
      rcases List.mem_append.1 hq with hq | hq
      · exact e3 q hq
      · rw [List.mem_singleton] at hq
        subst hq
        exact ⟨⟨hnp, by show ks.length < _; omega, by show ws.length < _; omega⟩, by show ws.length < _; omega⟩
    · intro sl hsl
      rw [isT]
      have hj := hsl (a.slots.length + nl.length) (by omega) (by rw [List.length_append, List.length_singleton]; omega)
      rw [← List.append_assoc, List.getElem?_append_right (by rw [List.length_append]; omega), List.length_append, Nat.sub_self] at hj
      refine ⟨ws, slotOf (ndSh ⟨l, t, ps, ks, kids⟩ ws) 1, ⟨⟨a.slots.length + nl.length, place_all ⟨a.slots.length + nl.length, by omega⟩, hj, rfl, rfl⟩⟩, rfl, rfl, e5 sl (fun j hj1 hj2 => ?_)⟩
      have := hsl j hj1 (by rw [List.length_append]; omega)
      rw [this, ← List.append_assoc, List.getElem?_append_left (by rw [List.length_append]; omega)]
theorem madeL_ok : ∀ (kids : List Sh) (a : Ar), slimL kids → a.free = [] → a.used = (a.slots.length : Int) → a.slots.length + manyL kids ≤ 1000 → ((a.slots.length + manyL kids : Nat) : Int) ≤ a.most → ∃ ws new, madeL kids a = some (ws, grow a new) ∧ new.length = manyL kids ∧ Fits1 new ∧ ws.length = kids.length ∧ ∀ sl, Sees a new sl → isL kids sl ws
  | [], a, hs, hf, hu, h1, hm => ⟨[], [], by rw [madeL]; unfold grow; simp, rfl, (fun q hq => by cases hq), rfl, fun sl _ => by rw [isL]⟩
  | k :: ks, a, hs, hf, hu, h1, hm => by
    rw [slimL] at hs
    rw [manyL] at h1 hm
    obtain ⟨x, n1, e1, e2, e3, e4⟩ := madeT_ok k a hs.1 hf hu (by omega) (by omega)
    have hlen : (grow a n1).slots.length = a.slots.length + n1.length := List.length_append
    obtain ⟨ws, n2, d1, d2, d3, d4, d5⟩ := madeL_ok ks (grow a n1) hs.2 hf (by show a.used + (n1.length : Int) = _; rw [hlen, hu]; omega) (by rw [hlen]; omega) (by rw [hlen]; show _ ≤ a.most; omega)
    refine ⟨x :: ws, n1 ++ n2, ?_, ?_, ?_, ?_, ?_⟩
    · rw [madeL, e1, Option.bind_some]
      simp only
      rw [d1, Option.bind_some]
      unfold grow
      simp only [List.append_assoc, List.length_append]
      congr 2
      simp only [Ar.mk.injEq, true_and, and_true]
      omega
    · rw [List.length_append, manyL, e2, d2]
    · intro q hq
      rcases List.mem_append.1 hq with hq | hq
      · exact e3 q hq
      · exact d3 q hq
    · rw [List.length_cons, List.length_cons, d4]
    · intro sl hsl
      rw [isL]
      refine ⟨x, ws, rfl, e4 sl (fun j hj1 hj2 => ?_), d5 sl (fun j hj1 hj2 => ?_)⟩
      · have := hsl j hj1 (by rw [List.length_append]; omega)
        rw [this, ← List.append_assoc, List.getElem?_append_left (by rw [List.length_append]; omega)]
      · rw [hlen] at hj1 hj2
        have := hsl j (by omega) (by rw [List.length_append]; omega)
        rw [this, ← List.append_assoc]
        rfl
end
def slA : Sl := slotOf nd0 1
def slB : Sl := slotOf (ndE qRoot) 1
theorem ref0 : refOf 0 1 = qRoot := by kernel_rfl
theorem ref1 : refOf 1 1 = qEntry := by kernel_rfl
theorem place0 : placeOf qRoot = 0 := by kernel_rfl
theorem place1 : placeOf qEntry = 1 := by kernel_rfl
theorem ws0_any (lo wd nodes recs : Int) (th : Nat) (hn : 2 ≤ nodes) : ws0 lo wd th nodes recs = some ⟨⟨[slA, slB], [], nodes, 2, 0⟩, ⟨[], recs⟩, ⟨0, List.replicate th (-1), List.replicate th []⟩, lo, wd, qEntry⟩ := by
  unfold ws0
  rw [alloc_fresh nd0 (ar0 nodes) rfl rfl (by show (0 : Nat) ≤ 1000; omega) (by show (0 : Int) < nodes; omega)]
  simp only
  rw [alloc_fresh _ _ rfl rfl (by show (1 : Nat) ≤ 1000; omega) (by show (1 : Int) < nodes; omega)]
  simp only
  rw [show refOf (((ar0 nodes).slots.length : Nat) : Int) 1 = qRoot from ref0]
  rw [show refOf ((((ar0 nodes).slots ++ [slotOf nd0 1]).length : Nat) : Int) 1 = qEntry from ref1]
  rfl
theorem leadsA (l : List Sl) (q : Sl) (r : List Sl) (h : l = q :: r) (hu : q.used = true) (hc : q.count = 1) : Leads l qRoot q := ⟨⟨0, place0, by rw [h]; rfl, hu, by rw [hc]; exact ref0⟩⟩
theorem leadsB (l : List Sl) (p q : Sl) (r : List Sl) (h : l = p :: q :: r) (hu : q.used = true) (hc : q.count = 1) : Leads l qEntry q := ⟨⟨1, place1, by rw [h]; rfl, hu, by rw [hc]; exact ref1⟩⟩
theorem countP_le {l : List Sl} : (l.countP fun q => q.used) ≤ l.length := List.countP_le_length
theorem plant_tree (s : Sh) (lo wd nodes : Int) (tt : Tb) (ep : Ep) (hs : slimT s) (hd : deepT s ≤ 40) (h1 : manyT s ≤ 930) (hm : (2 + manyT s : Int) ≤ nodes) (h6 : nodes ≤ 65536) :
    ∃ a : Ar, plantT s ⟨⟨[slA, slB], [], nodes, 2, 0⟩, tt, ep, lo, wd, qEntry⟩ = some ⟨a, tt, ep, lo, wd, qEntry⟩ ∧ a.Good ∧ a.used = 1 + (manyT s : Int) ∧ a.faults = 0 ∧ ∃ r, Leads a.slots qEntry { slB with ways := [r] } ∧ isT s a.slots r := by
  obtain ⟨r, new, e1, e2, e3, e4⟩ := madeT_ok s ⟨[slA, slB], [], nodes, 2, 0⟩ hs rfl rfl (by show 2 + manyT s ≤ 1000; omega) (by show ((2 + manyT s : Nat) : Int) ≤ nodes; omega)
  have hB : Leads [slA, slB] qEntry slB := leadsB _ _ _ [] rfl rfl rfl
  have hw : (⟨[slA, slB], [], nodes, 2, 0⟩ : Ar).way qEntry 0 = (qRoot, ⟨[slA, slB], [], nodes, 2, 0⟩) := Leads.way (a := ⟨[slA, slB], [], nodes, 2, 0⟩) hB 0 (by decide)
  have hsw : (grow ⟨[slA, slB], [], nodes, 2, 0⟩ new).swapWay qEntry 0 qRoot r = (true, ⟨slA :: { slB with ways := [r] } :: new, [], nodes, 2 + (new.length : Int), 0⟩) := by
    obtain ⟨j, i1, i2, i3⟩ := Leads.idx (a := grow ⟨[slA, slB], [], nodes, 2, 0⟩ new) (leadsB _ slA slB new rfl rfl rfl)
    have hj : j = 1 := by rw [place1] at i3; omega
    subst hj
    unfold Ar.swapWay
    rw [i1]
    simp only
    rw [i2]
    simp only
    rw [if_neg (by omega), if_neg (by decide), if_pos (by rfl)]
    rfl
  have hfr : (⟨slA :: { slB with ways := [r] } :: new, [], nodes, 2 + (new.length : Int), 0⟩ : Ar).free_ qRoot = (true, ⟨{ slA with used := false } :: { slB with ways := [r] } :: new, [0], nodes, 1 + (new.length : Int), 0⟩) := by
    obtain ⟨j, i1, i2, i3⟩ := Leads.idx (a := ⟨slA :: { slB with ways := [r] } :: new, [], nodes, 2 + (new.length : Int), 0⟩) (leadsA _ slA ({ slB with ways := [r] } :: new) rfl rfl rfl)
    have hj : j = 0 := by rw [place0] at i3; omega
    subst hj
    unfold Ar.free_
    rw [i1]
    simp only
    rw [i2]
    simp only
    unfold Ar.freed
    rw [place0, show wrap64 (2 + (new.length : Int) - 1) = 1 + (new.length : Int) from by unfold wrap64; omega]
    rfl
  refine ⟨⟨{ slA with used := false } :: { slB with ways := [r] } :: new, [0], nodes, 1 + (new.length : Int), 0⟩, ?_, ?_, by rw [e2], rfl, r, leadsB _ _ _ new rfl rfl rfl, e4 _ (fun j hj1 hj2 => ?_)⟩
  · unfold plantT
    simp only
    rw [hw]
    simp only
    rw [e1, Option.bind_some]
    simp only
    rw [hsw]
    simp only
    rw [hfr]
    rw [if_pos ⟨by decide, by show ([slA, slB] ++ new).length < 1000000; rw [List.length_append]; show 2 + new.length < _; omega, by rw [List.length_cons, List.length_cons]; omega, by decide⟩]
  · refine ⟨h6, by simp only [List.length_cons]; omega, by simp only [List.length_cons, List.length_nil]; omega, ?_, fun i q hi => ?_⟩
    · rw [List.countP_cons_of_neg (by simp)]
      have := @countP_le ({ slB with ways := [r] } :: new)
      rw [List.length_cons] at this
      show _ ≤ 1 + (new.length : Int)
      omega
    · cases i with
      | zero => simp at hi; subst hi; exact ⟨⟨by decide, by decide, by decide⟩, by decide⟩
      | succ i =>
        cases i with
        | zero => simp at hi; subst hi; exact ⟨⟨by show (0 : Nat) < _; omega, by show (0 : Nat) < _; omega, by show (1 : Nat) < _; omega⟩, by simp⟩
        | succ i =>
          simp only [List.getElem?_cons_succ] at hi
          exact e3 q (List.mem_of_getElem? hi)
  · have hj : 2 ≤ j := hj1
    obtain ⟨i, rfl⟩ : ∃ i, j = i + 2 := ⟨j - 2, by omega⟩
    rfl
theorem read_tree {s : Sh} {a : Ar} {r : Int} {q : Sl} (hL : Leads a.slots qEntry q) (hw : q.ways = [r]) (h : isT s a.slots r) (hd : deepT s ≤ 40) (tt : Tb) (ep : Ep) (lo wd : Int) : Ws.read ⟨a, tt, ep, lo, wd, qEntry⟩ = (s, a) := by
  have hw1 := Leads.way hL 0 (by rw [hw]; simp)
  rw [show ((0 : Nat) : Int) = 0 from rfl, hw] at hw1
  unfold Ws.read
  simp only
  rw [hw1]
  simp only
  exact read_is 40 s _ r hd h
inductive Walks (ar : Ar) (key : Int) : Int → List Stp → Prop where
  | leaf {r : Int} {n : Nd} (h : ar.look r = (n, ar)) (hi : n.inner = false) : Walks ar key r [⟨r, n, stpWay n key⟩]
  | inner {r r1 : Int} {n : Nd} {l : List Stp} (h : ar.look r = (n, ar)) (hi : n.inner = true) (hw : ar.way r (stpWay n key) = (r1, ar)) (h0 : r1 ≠ 0) (hl : Walks ar key r1 l) : Walks ar key r (⟨r, n, stpWay n key⟩ :: l)
theorem Walks.head {ar : Ar} {key r : Int} {l : List Stp} (h : Walks ar key r l) : ∃ q t, l = q :: t ∧ q.ref = r := by
  cases h with
  | leaf h hi => exact ⟨_, _, rfl, rfl⟩
  | inner h hi hw h0 hl => exact ⟨_, _, rfl, rfl⟩
def refs (l : List Stp) : List Int := (l.drop 1).map Stp.ref
theorem refs_cons {ar : Ar} {key r : Int} {q : Stp} {l : List Stp} (h : Walks ar key r l) : refs (q :: l) = r :: refs l := by
  obtain ⟨p, t, rfl, hp⟩ := h.head
  subst hp
  rfl
def goOn (x : Ws) (log : List Int) (at_ : Nat) (spent : Bool) (rs : List Int) (ans : List Stp) : Option (Out (List Stp) × TS Ws) :=
  match rs with
  | [] => some (.ret ans, ⟨x, log, at_, spent⟩)
  | r :: rs => if at_ < log.length then goOn x log (at_ + 1) spent rs ans else if spent then some (.wait, ⟨x, log, at_, spent⟩) else goOn x (log ++ [r]) (at_ + 1) true rs ans
theorem path_goOn {ar : Ar} {key r : Int} {l : List Stp} (h : Walks ar key r l) : ∀ (f : Nat) (acc : List Stp) (x : Ws) (log : List Int) (at_ : Nat) (spent : Bool), x.ar = ar → l.length < f → log.length + l.length < 999999 → at_ ≤ log.length → (∀ j, at_ + j < log.length → (refs l)[j]? = log[at_ + j]?) →
    pathT key f r acc ⟨x, log, at_, spent⟩ = goOn x log at_ spent (refs l) (acc ++ l) := by
  induction h with
  | @leaf r n h hi =>
    intro f acc x log at_ spent hx hf hlen hat hlog
    obtain ⟨f, rfl⟩ : ∃ g, f = g + 1 := ⟨f - 1, by omega⟩
    rw [pathT]
    unfold prBind lookT
    simp only
    subst hx
    rw [h]
    simp only
    rw [if_pos hi]
    rfl
  | @inner r r1 n l h hi hw h0 hl ih =>
    intro f acc x log at_ spent hx hf hlen hat hlog
    obtain ⟨f, rfl⟩ : ∃ g, f = g + 1 := ⟨f - 1, by omega⟩
    rw [List.length_cons] at hf hlen
    rw [refs_cons hl] at hlog ⊢
    subst hx
    rw [pathT]
    unfold prBind lookT
    simp only
    rw [h]
    simp only
    rw [if_neg (by rw [hi]; simp)]
    unfold wayT doT goOn
    by_cases ha : at_ < log.length
    · have hr : log.getD at_ 0 = r1 := by
        have := hlog 0 (by omega)
        rw [List.getD_eq_getElem?_getD, show log[at_]? = some r1 from this.symm]
        rfl
      simp only [if_pos ha, hr]
      rw [if_neg h0]
      have := ih f (acc ++ [⟨r, n, stpWay n key⟩]) x log (at_ + 1) spent rfl (by omega) (by omega) (by omega) (fun j hj => by have := hlog (j + 1) (by omega); rw [List.getElem?_cons_succ] at this; rw [this]; congr 1; omega)
      rw [this, List.append_assoc]
      rfl
    · simp only [if_neg ha]
      cases spent with
      | true => rfl
      | false =>
        have hle : at_ = log.length := by omega
        simp only [Bool.false_eq_true, if_false]
        rw [if_neg (by omega)]
        simp only [hw]
        rw [if_neg h0]
        have := ih f (acc ++ [⟨r, n, stpWay n key⟩]) x (log ++ [r1]) (at_ + 1) true rfl (by omega) (by rw [List.length_append, List.length_singleton]; omega) (by rw [List.length_append, List.length_singleton]; omega) (fun j hj => by rw [List.length_append, List.length_singleton] at hj; omega)
        rw [this, List.append_assoc]
        rfl
theorem goOn_done (x : Ws) (ans : List Stp) (spent : Bool) : ∀ (rs pre : List Int), goOn x (pre ++ rs) pre.length spent rs ans = some (.ret ans, ⟨x, pre ++ rs, (pre ++ rs).length, spent⟩)
  | [], pre => by rw [List.append_nil]; rfl
  | r :: rs, pre => by
    unfold goOn
    rw [if_pos (by rw [List.length_append, List.length_cons]; omega)]
    have := goOn_done x ans spent rs (pre ++ [r])
    rw [List.length_append, List.length_singleton, List.append_assoc] at this
    exact this
theorem goOn_waits (x : Ws) (ans : List Stp) : ∀ (rs pre : List Int) (j : Nat), j < rs.length → goOn x (pre ++ rs.take j) pre.length true rs ans = some (.wait, ⟨x, pre ++ rs.take j, (pre ++ rs.take j).length, true⟩)
  | r :: rs, pre, 0, _ => by
    rw [List.take_zero, List.append_nil]
    unfold goOn
    rw [if_neg (by omega), if_pos rfl]
  | r :: rs, pre, j + 1, h => by
    rw [List.length_cons] at h
    unfold goOn
    rw [List.take_succ_cons, if_pos (by rw [List.length_append, List.length_cons]; omega)]
    have := goOn_waits x ans rs (pre ++ [r]) j (by omega)
    rw [List.length_append, List.length_singleton, List.append_assoc] at this
    exact this
theorem goOn_once (x : Ws) (ans : List Stp) : ∀ (rs pre : List Int) (j : Nat), j < rs.length → goOn x (pre ++ rs.take j) pre.length false rs ans = if j + 1 = rs.length then some (.ret ans, ⟨x, pre ++ rs, (pre ++ rs).length, true⟩) else some (.wait, ⟨x, pre ++ rs.take (j + 1), (pre ++ rs.take (j + 1)).length, true⟩)
  | r :: rs, pre, 0, _ => by
    rw [List.take_zero, List.append_nil]
    unfold goOn
    rw [if_neg (by omega), if_neg (by simp)]
    by_cases hr : 0 + 1 = (r :: rs).length
    · rw [if_pos hr]
      have hn : rs = [] := List.eq_nil_of_length_eq_zero (by rw [List.length_cons] at hr; omega)
      subst hn
      have := goOn_done x ans true [] (pre ++ [r])
      rw [List.append_nil, List.length_append, List.length_singleton] at this
      rw [List.length_append, List.length_singleton]
      exact this
    · rw [if_neg hr]
      have hn : 0 < rs.length := by rw [List.length_cons] at hr; omega
      have := goOn_waits x ans rs (pre ++ [r]) 0 hn
      rw [List.take_zero, List.append_nil, List.length_append, List.length_singleton] at this
      rw [List.take_succ_cons, List.take_zero, List.length_append, List.length_singleton]
      exact this
  | r :: rs, pre, j + 1, h => by
    rw [List.length_cons] at h
    have := goOn_once x ans rs (pre ++ [r]) j (by omega)
    rw [List.length_append, List.length_singleton, List.append_assoc, List.append_assoc, List.append_assoc] at this
    unfold goOn
    rw [List.take_succ_cons, if_pos (by rw [List.length_append, List.length_cons]; omega), List.take_succ_cons, List.length_cons]
    rw [show pre ++ r :: rs.take j = pre ++ ([r] ++ rs.take j) from rfl, this]
    by_cases hj : j + 1 = rs.length
    · rw [if_pos hj, if_pos (by omega)]; rfl
    · rw [if_neg hj, if_neg (by omega)]; rfl
theorem alone_steps (tw : Pr Ws (List Int)) (x : Ws) (rs out : List Int) (h : ∀ j, j < rs.length → ∃ s1, tw ⟨x, rs.take j, 0, false⟩ = some ((if j + 1 = rs.length then .ret out else .wait), s1) ∧ s1.sh = x ∧ s1.log = rs.take (j + 1)) :
    ∀ (n j f : Nat), j + n = rs.length → 0 < n → n ≤ f → aloneT tw f x (rs.take j) = some (some out, f - n, x, rs)
  | 0, _, _, _, h0, _ => absurd h0 (by omega)
  | n + 1, j, 0, _, _, hf => absurd hf (by omega)
  | n + 1, j, f + 1, hj, _, hf => by
    obtain ⟨s1, h1, h2, h3⟩ := h j (by omega)
    unfold aloneT
    rw [h1]
    by_cases hn : j + 1 = rs.length
    · rw [if_pos hn]
      have : n = 0 := by omega
      subst this
      simp only [h2, h3, hn, List.take_length]
      rfl
    · rw [if_neg hn]
      simp only [h2, h3]
      rw [alone_steps tw x rs out h n (j + 1) f (by omega) (by omega) (by omega)]
      rw [show f + 1 - (n + 1) = f - n by omega]
mutual
def evenlyT (a : Nat) : Nat → Sh → Prop
  | d, ⟨l, t, ps, ks, kids⟩ => t = false ∧ ((l = true ∧ d = 0 ∧ kids = [] ∧ a ≤ ps.length) ∨ (l = false ∧ 0 < d ∧ ks.length + 1 = kids.length ∧ a ≤ kids.length ∧ evenlyL a (d - 1) kids))
def evenlyL (a : Nat) : Nat → List Sh → Prop
  | _, [] => True
  | d, k :: r => evenlyT a d k ∧ evenlyL a d r
end
theorem evenlyL_append (a d : Nat) : ∀ x y : List Sh, evenlyL a d (x ++ y) ↔ evenlyL a d x ∧ evenlyL a d y
  | [], y => by simp [evenlyL]
  | k :: r, y => by rw [List.cons_append, evenlyL, evenlyL, evenlyL_append a d r y, and_assoc]
def rootT (a d : Nat) (s : Sh) : Prop := s.f1 = false ∧ ((s.f0 = true ∧ d = 0 ∧ s.f4 = []) ∨ (s.f0 = false ∧ 0 < d ∧ s.f3.length + 1 = s.f4.length ∧ 2 ≤ s.f4.length ∧ evenlyL a (d - 1) s.f4))
theorem leafRow_evenly (a : Nat) : ∀ (ns : List Nat) (xs : List Pr2), ns.sum ≤ xs.length → (∀ n ∈ ns, a ≤ n) → evenlyL a 0 (leafRow xs ns)
  | [], xs, _, _ => by rw [leafRow]; trivial
  | n :: ns, xs, h, hn => by
    rw [List.sum_cons] at h
    rw [leafRow, evenlyL, evenlyT]
    refine ⟨⟨rfl, .inl ⟨rfl, rfl, rfl, ?_⟩⟩, leafRow_evenly a ns (xs.drop n) (by rw [List.length_drop]; omega) (fun x hx => hn x (List.mem_cons_of_mem _ hx))⟩
    have := hn n List.mem_cons_self
    rw [List.length_take]
    omega
theorem seg_len {α : Type} (l : List α) (i n : Nat) (h : i + n ≤ l.length) : ((l.take (i + n)).drop i).length = n := by
  rw [List.length_drop, List.length_take]
  omega
theorem upRow_evenly (a d : Nat) (row : List Sh) (fs : List Int) (hf : fs.length = row.length) (m : Nat) : ∀ (ns : List Nat) (i : Nat), i + ns.sum ≤ row.length → (∀ n ∈ ns, m ≤ n ∧ 1 ≤ n) → evenlyL a d (row.drop i) → ∀ q ∈ upRow row fs i ns, q.f1 = false ∧ q.f0 = false ∧ q.f3.length + 1 = q.f4.length ∧ m ≤ q.f4.length ∧ evenlyL a d q.f4
  | [], i, _, _, _ => by rw [upRow]; intro q hq; cases hq
  | n :: ns, i, h, hn, he => by
    rw [List.sum_cons] at h
    rw [upRow]
    rw [seg_split row i n, evenlyL_append] at he
    obtain ⟨h1, h2⟩ := hn n List.mem_cons_self
    intro q hq
    rcases List.mem_cons.1 hq with rfl | hq
    · have e1 := seg_len row i n (by omega)
      refine ⟨rfl, rfl, ?_, ?_, he.1⟩
      · show ((fs.take (i + n)).drop (i + 1)).length + 1 = ((row.take (i + n)).drop i).length
        rw [e1, List.length_drop, List.length_take]
        omega
      · show m ≤ ((row.take (i + n)).drop i).length
        rw [e1]
        exact h1
    · exact upRow_evenly a d row fs hf m ns (i + n) (by omega) (fun x hx => hn x (List.mem_cons_of_mem _ hx)) he.2 q hq
theorem evenly_all (a d : Nat) : ∀ l : List Sh, (∀ q ∈ l, evenlyT a d q) → evenlyL a d l
  | [], _ => by rw [evenlyL]; trivial
  | k :: r, h => by rw [evenlyL]; exact ⟨h k List.mem_cons_self, evenly_all a d r (fun q hq => h q (List.mem_cons_of_mem _ hq))⟩
theorem evenUp_root (b : Nat) (hb : 3 ≤ b) (hb8 : b ≤ 8) : ∀ (f d : Nat) (row : List Sh) (fs : List Int), row ≠ [] → row.length ≤ f + 1 → row.length ≤ 60 → fs.length = row.length →
    (1 < row.length → evenlyL ((b + 1) / 2) d row) → (row.length = 1 → rootT ((b + 1) / 2) d (row.headD zSh)) → ∃ d1, rootT ((b + 1) / 2) d1 (evenUp b f row fs)
  | 0, d, row, fs, h0, h1, h2, h3, h4, h5 => by
    rw [evenUp]
    have : row.length ≠ 0 := fun e => h0 (List.eq_nil_of_length_eq_zero e)
    exact ⟨d, h5 (by omega)⟩
  | f + 1, d, row, fs, h0, h1, h2, h3, h4, h5 => by
    rw [evenUp]
    have hne : row.length ≠ 0 := fun e => h0 (List.eq_nil_of_length_eq_zero e)
    by_cases hl : 1 < row.length
    · rw [if_pos hl]
      obtain ⟨p1, p2, p3, p4, p5⟩ := parts_good row.length b h2 hb hb8
      generalize partsN row.length b = ns at p1 p2 p3 p4 p5
      have hns : ns ≠ [] := fun e => by subst e; simp at p1; omega
      have hlen := upRow_length row fs ns 0
      have hklen := upKey_length fs ns 0
      have he := h4 hl
      refine evenUp_root b hb hb8 f (d + 1) (upRow row fs 0 ns) (upKey fs 0 ns) (fun e => hns (List.eq_nil_of_length_eq_zero (by rw [← hlen, e]; rfl))) (by have := p3 hl; omega) (by omega) (by rw [hklen, hlen]) (fun hl2 => ?_) (fun hl1 => ?_)
      · rw [hlen] at hl2
        refine evenly_all _ _ _ (fun q hq => ?_)
        obtain ⟨a1, a2, a3, a4, a5⟩ := upRow_evenly ((b + 1) / 2) d row fs h3 ((b + 1) / 2) ns 0 (by omega) (fun n hn => ⟨p5 hl2 n hn, (p2 n hn).1⟩) (by rw [List.drop_zero]; exact he) q hq
        cases q with
        | mk l t ps ks kids =>
          rw [evenlyT]
          exact ⟨a1, .inr ⟨a2, by omega, a3, a4, a5⟩⟩
      · have hmem : (upRow row fs 0 ns).headD zSh ∈ upRow row fs 0 ns := by
          cases hu : upRow row fs 0 ns with
          | nil => rw [hu] at hl1; cases hl1
          | cons k r => exact List.mem_cons_self
        have hn1 : ns.length = 1 := by rw [← hlen]; exact hl1
        have hone : ∀ n ∈ ns, 2 ≤ n ∧ 1 ≤ n := by
          intro n hn
          have : ns = [n] := by
            match ns, hn1, hn with
            | [x], _, hn => rw [List.mem_singleton] at hn; rw [hn]
          rw [this] at p1
          simp at p1
          omega
        obtain ⟨a1, a2, a3, a4, a5⟩ := upRow_evenly ((b + 1) / 2) d row fs h3 2 ns 0 (by omega) hone (by rw [List.drop_zero]; exact he) _ hmem
        exact ⟨a1, .inr ⟨a2, by omega, a3, a4, a5⟩⟩
    · rw [if_neg hl]
      exact ⟨d, h5 (by omega)⟩
theorem evenT_root (xs : List Pr2) (b : Nat) (h : xs.length ≤ 60) (hb : 3 ≤ b) (hb8 : b ≤ 8) : ∃ d, rootT ((b + 1) / 2) d (evenT xs b) := by
  unfold evenT
  by_cases h0 : xs.length = 0
  · rw [if_pos h0]
    exact ⟨0, rfl, .inl ⟨rfl, rfl, rfl⟩⟩
  · rw [if_neg h0]
    obtain ⟨p1, p2, p3, p4, p5⟩ := parts_good xs.length b h hb hb8
    generalize partsN xs.length b = ns at p1 p2 p3 p4 p5
    have hns : ns ≠ [] := fun e => by subst e; simp at p1; omega
    have hlen := leafRow_length ns xs
    have hklen := leafKey_length ns xs
    refine evenUp_root b hb hb8 60 0 (leafRow xs ns) (leafKey xs ns) (fun e => hns (List.eq_nil_of_length_eq_zero (by rw [← hlen, e]; rfl))) (by omega) (by omega) (by rw [hklen, hlen]) (fun hl => ?_) (fun hl => ?_)
    · rw [hlen] at hl
      exact leafRow_evenly _ ns xs (by omega) (fun n hn => p5 hl n hn)
    · have h1 : ∀ q ∈ leafRow xs ns, q.f1 = false ∧ q.f0 = true ∧ q.f4 = [] := by
        clear p1 p2 p3 p4 p5 hns hlen hklen hl h h0
        induction ns generalizing xs with
        | nil => intro q hq; cases hq
        | cons n ns ih =>
          intro q hq
          rw [leafRow] at hq
          rcases List.mem_cons.1 hq with rfl | hq
          · exact ⟨rfl, rfl, rfl⟩
          · exact ih _ q hq
      have hmem : (leafRow xs ns).headD zSh ∈ leafRow xs ns := by
        cases hu : leafRow xs ns with
        | nil => rw [hu] at hl; cases hl
        | cons k r => exact List.mem_cons_self
      obtain ⟨a1, a2, a3⟩ := h1 _ hmem
      exact ⟨a1, .inl ⟨a2, rfl, a3⟩⟩
set_option maxRecDepth 100000 in
theorem parts_few_all : ∀ n : Fin 61, ∀ b : Fin 9, 3 ≤ b.val → (partsN n b).length ≤ 20 := by decide +kernel
theorem evenT_good60 (xs : List Pr2) (b : Nat) (h : xs.length ≤ 60) (hb : 3 ≤ b) (hb8 : b ≤ 8) : manyT (evenT xs b) ≤ 420 ∧ deepT (evenT xs b) ≤ 20 ∧ slimT (evenT xs b) := by
  unfold evenT
  by_cases h0 : xs.length = 0
  · rw [if_pos h0, manyT_eq, deepT_eq, slimT_eq]
    exact ⟨by simp [manyL], by simp [deepL], by simp, by simp, by simp, trivial⟩
  · rw [if_neg h0]
    obtain ⟨p1, p2, p3, p4, _⟩ := parts_good xs.length b (by omega) hb hb8
    have p6 : (partsN xs.length b).length ≤ 20 := parts_few_all ⟨xs.length, by omega⟩ ⟨b, by omega⟩ hb
    generalize partsN xs.length b = ns at p1 p2 p3 p4 p6
    have hns : ns ≠ [] := fun e => by subst e; simp at p1; omega
    obtain ⟨a1, a2, a3⟩ := leafRow_good ns xs (fun n hn => by have := (p2 n hn).2; omega)
    have hlen := leafRow_length ns xs
    obtain ⟨q1, q2, q3⟩ := evenUp_good b hb hb8 60 (leafRow xs ns) (leafKey xs ns) (fun e => hns (List.eq_nil_of_length_eq_zero (by rw [← hlen, e]; rfl))) (by omega) a3
    rw [hlen] at q1 q2
    have hsq := Nat.mul_le_mul p6 p6
    exact ⟨by omega, by omega, q3⟩
theorem evenlyL_deep (a : Nat) : ∀ (d : Nat) (l : List Sh), (∀ q ∈ l, deepT q = d) → l ≠ [] → deepL l = d + 1
  | d, [], _, h => absurd rfl h
  | d, [k], h, _ => by rw [deepL, deepL, h k List.mem_cons_self]; omega
  | d, k :: j :: r, h, _ => by
    rw [deepL, h k List.mem_cons_self, evenlyL_deep a d (j :: r) (fun q hq => h q (List.mem_cons_of_mem _ hq)) (by simp)]
    omega
theorem evenlyL_mem {a d : Nat} : ∀ {l : List Sh}, evenlyL a d l → ∀ q ∈ l, evenlyT a d q
  | [], _, q, hq => by cases hq
  | k :: r, h, q, hq => by
    rw [evenlyL] at h
    rcases List.mem_cons.1 hq with rfl | hq
    · exact h.1
    · exact evenlyL_mem h.2 q hq
theorem evenlyT_deep {a : Nat} (ha : 1 ≤ a) : ∀ (d : Nat) (s : Sh), evenlyT a d s → deepT s = d := by
  intro d
  induction d with
  | zero =>
    intro s h
    cases s with
    | mk l t ps ks kids =>
      rw [evenlyT] at h
      rcases h.2 with ⟨_, _, h, _⟩ | ⟨_, h, _⟩
      · subst h
        rfl
      · omega
  | succ d ih =>
    intro s h
    cases s with
    | mk l t ps ks kids =>
      rw [evenlyT] at h
      rcases h.2 with ⟨_, h, _⟩ | ⟨_, _, _, h1, h2⟩
      · omega
      · rw [deepT_eq]
        exact evenlyL_deep a d kids (fun q hq => ih q (evenlyL_mem h2 q hq)) (fun e => by subst e; simp at h1; omega)
theorem rootT_deep {a d : Nat} {s : Sh} (ha : 1 ≤ a) (h : rootT a d s) : deepT s = d := by
  rcases h.2 with ⟨_, h1, h2⟩ | ⟨_, h0, _, h1, h2⟩
  · rw [deepT_eq, h2, h1]; rfl
  · rw [deepT_eq, evenlyL_deep a (d - 1) s.f4 (fun q hq => evenlyT_deep ha (d - 1) q (evenlyL_mem h2 q hq)) (fun e => by rw [e] at h1; simp at h1)]
    omega
theorem isL_len : ∀ (kids : List Sh) (sl : List Sl) (ws : List Int), isL kids sl ws → ws.length = kids.length
  | [], sl, ws, h => by rw [isL] at h; rw [h]; rfl
  | k :: r, sl, ws, h => by
    rw [isL] at h
    obtain ⟨x, ws1, rfl, _, h2⟩ := h
    rw [List.length_cons, List.length_cons, isL_len r sl ws1 h2]
theorem isL_at : ∀ (kids : List Sh) (sl : List Sl) (ws : List Int) (i : Nat), isL kids sl ws → i < kids.length → ∃ k ∈ kids, isT k sl (ws.getD i 0)
  | [], sl, ws, i, h, hi => by simp at hi
  | k :: r, sl, ws, 0, h, hi => by
    rw [isL] at h
    obtain ⟨x, ws1, rfl, h1, _⟩ := h
    exact ⟨k, List.mem_cons_self, h1⟩
  | k :: r, sl, ws, i + 1, h, hi => by
    rw [isL] at h
    obtain ⟨x, ws1, rfl, _, h2⟩ := h
    obtain ⟨q, hq, h3⟩ := isL_at r sl ws1 i h2 (by simpa using hi)
    exact ⟨q, List.mem_cons_of_mem _ hq, by simpa using h3⟩
theorem place_nought : placeOf 0 = -1 := by kernel_rfl
theorem isT_ne {s : Sh} {sl : List Sl} {r : Int} (h : isT s sl r) : r ≠ 0 := by
  obtain ⟨ws, q, h1, _⟩ := (isT_eq s sl r).1 h
  obtain ⟨j, h2, _⟩ := h1.out
  intro e
  subst e
  rw [place_nought] at h2
  omega
theorem wayOf_range (keys : List Int) (m : Nat) (key : Int) (hm : 0 < m) : ∃ i : Nat, wayOf keys m key = (i : Int) ∧ i < m := by
  have h0 : 0 ≤ wayOf keys m key := by
    unfold wayOf
    split <;> omega
  have h1 : wayOf keys m key ≤ (m : Int) - 1 := by
    unfold wayOf
    omega
  exact ⟨(wayOf keys m key).toNat, by omega, by omega⟩
structure Fine (m : Nat) (q : Stp) : Prop where
  right : wrongOf m q.node false = 0
  small : q.node.Small
theorem nd_small {s : Sh} {ws : List Int} (h : slimT s) (hw : ws.length = s.f4.length) : (ndSh s ws).Small := by
  rw [slimT_eq] at h
  exact ⟨by show (prs2 s.f2).length < _; rw [prs2_length]; omega, by show s.f3.length < _; omega, by show ws.length < _; omega⟩
theorem slimL_mem : ∀ {l : List Sh}, slimL l → ∀ q ∈ l, slimT q
  | [], _, q, hq => by cases hq
  | k :: r, h, q, hq => by
    rw [slimL] at h
    rcases List.mem_cons.1 hq with rfl | hq
    · exact h.1
    · exact slimL_mem h.2 q hq
theorem walks_down (m : Nat) (key : Int) (a : Ar) : ∀ (d : Nat) (s : Sh) (r : Int), evenlyT m d s → slimT s → 1 ≤ m → isT s a.slots r → ∃ l, Walks a key r l ∧ l.length = d + 1 ∧ ∀ q ∈ l, Fine m q := by
  intro d
  induction d with
  | zero =>
    intro s r he hs hm h
    obtain ⟨ws, q, h1, h2, h3, h4⟩ := (isT_eq s a.slots r).1 h
    have hl := h1.look
    rw [h2] at hl
    cases s with
    | mk l t ps ks kids =>
      rw [evenlyT] at he
      obtain ⟨rfl, he⟩ := he
      rcases he with ⟨rfl, _, rfl, h5⟩ | ⟨_, h5, _⟩
      · refine ⟨_, .leaf hl rfl, rfl, fun q hq => ?_⟩
        rw [List.mem_singleton] at hq
        subst hq
        refine ⟨?_, nd_small hs (isL_len _ _ _ h4)⟩
        show (if false = true then 1 else if ((if false = true then ws.length else (prs2 ps).length : Nat) : Int) < (m : Int) then 2 else 0) = 0
        simp only [Bool.false_eq_true, if_false]
        rw [prs2_length, if_neg (by omega)]
      · omega
  | succ d ih =>
    intro s r he hs hm h
    obtain ⟨ws, q, h1, h2, h3, h4⟩ := (isT_eq s a.slots r).1 h
    have hl := h1.look
    rw [h2] at hl
    have hlen := isL_len _ _ _ h4
    cases s with
    | mk l t ps ks kids =>
      have hs' := (slimT_eq _).1 hs
      rw [evenlyT] at he
      obtain ⟨rfl, he⟩ := he
      rcases he with ⟨_, h5, _⟩ | ⟨rfl, _, h6, h7, h8⟩
      · omega
      · have hk : 0 < kids.length := by omega
        have hlen' : ws.length = kids.length := hlen
        obtain ⟨i, e1, e2⟩ := wayOf_range ks ws.length key (by omega)
        obtain ⟨kd, hkd, hkt⟩ := isL_at kids a.slots ws i h4 (by omega)
        obtain ⟨l2, w1, w2, w3⟩ := ih kd (ws.getD i 0) (evenlyL_mem h8 kd hkd) (slimL_mem hs'.2.2.2 kd hkd) hm hkt
        have hw := h1.way i (by rw [h3]; exact e2)
        rw [h3] at hw
        refine ⟨_, .inner hl rfl (by rw [show stpWay (ndSh ⟨false, false, ps, ks, kids⟩ ws) key = (i : Int) from e1]; exact hw) (isT_ne hkt) w1, by rw [List.length_cons, w2], fun q hq => ?_⟩
        rcases List.mem_cons.1 hq with rfl | hq
        · refine ⟨?_, nd_small hs hlen⟩
          show (if false = true then 1 else if ((if true = true then ws.length else (prs2 ps).length : Nat) : Int) < (m : Int) then 2 else 0) = 0
          simp only [Bool.false_eq_true, if_false, if_true]
          rw [if_neg (by omega)]
        · exact w3 q hq
theorem walks_root (m : Nat) (key : Int) (a : Ar) (d : Nat) (s : Sh) (r : Int) (he : rootT m d s) (hs : slimT s) (hm : 1 ≤ m) (h : isT s a.slots r) : ∃ q l, Walks a key r (q :: l) ∧ l.length = d ∧ q.node.Small ∧ wrongOf m q.node true = 0 ∧ ∀ p ∈ l, Fine m p := by
  obtain ⟨ws, q, h1, h2, h3, h4⟩ := (isT_eq s a.slots r).1 h
  have hl := h1.look
  rw [h2] at hl
  have hlen := isL_len _ _ _ h4
  have hs' := (slimT_eq _).1 hs
  have hsm := nd_small hs hlen
  obtain ⟨e0, he⟩ := he
  rcases he with ⟨e1, rfl, e3⟩ | ⟨e1, hd, e3, e4, e5⟩
  · refine ⟨_, [], .leaf hl (by show (!s.f0) = false; rw [e1]; rfl), rfl, hsm, ?_, fun p hp => by cases hp⟩
    unfold wrongOf leastOf
    have hin : (ndSh s ws).inner = false := by show (!s.f0) = false; rw [e1]; rfl
    rw [if_neg (by show ¬ s.f1 = true; rw [e0]; simp)]
    simp only [hin, if_true, Bool.false_eq_true, if_false]
    rw [if_neg (by omega)]
  · obtain ⟨i, w1, w2⟩ := wayOf_range s.f3 ws.length key (by omega)
    obtain ⟨kd, hkd, hkt⟩ := isL_at s.f4 a.slots ws i h4 (by omega)
    obtain ⟨l2, x1, x2, x3⟩ := walks_down m key a (d - 1) kd (ws.getD i 0) (evenlyL_mem e5 kd hkd) (slimL_mem hs'.2.2.2 kd hkd) hm hkt
    have hw := h1.way i (by rw [h3]; exact w2)
    rw [h3] at hw
    have hin : (ndSh s ws).inner = true := by show (!s.f0) = true; rw [e1]; rfl
    have hst : stpWay (ndSh s ws) key = (i : Int) := by unfold stpWay; rw [if_pos hin]; exact w1
    refine ⟨_, l2, .inner hl hin (by rw [hst]; exact hw) (isT_ne hkt) x1, by omega, hsm, ?_, x3⟩
    unfold wrongOf leastOf sizeOfNd
    rw [if_neg (by show ¬ s.f1 = true; rw [e0]; simp), if_pos rfl, if_pos hin, if_pos hin, if_neg (by show ¬ ((ws.length : Int) < 2); omega)]
theorem walks_entry (m : Nat) (key : Int) (a : Ar) (d : Nat) (s : Sh) (r en : Int) (q : Sl) (hq : Leads a.slots en q) (hn : q.node.inner = true ∧ q.node.keys = [] ∧ q.node.ways.length = 1 ∧ q.node.Small) (hw : q.ways = [r]) (he : rootT m d s) (hs : slimT s) (hm : 1 ≤ m) (h : isT s a.slots r) :
    ∃ l, Walks a key en l ∧ l.length = d + 2 ∧ (∀ p ∈ l, p.node.Small) ∧ (firstWrong m (l.drop 1) 1).isNone = true := by
  obtain ⟨p, l, w1, w2, w3, w4, w5⟩ := walks_root m key a d s r he hs hm h
  have hst : stpWay q.node key = ((0 : Nat) : Int) := by
    obtain ⟨i, e1, e2⟩ := wayOf_range q.node.keys q.node.ways.length key (by omega)
    unfold stpWay
    rw [if_pos hn.1, e1]
    omega
  have hway := hq.way 0 (by rw [hw]; exact Nat.one_pos)
  rw [hw] at hway
  refine ⟨_, .inner hq.look hn.1 (by rw [hst]; exact hway) (isT_ne h) w1, by rw [List.length_cons, List.length_cons, w2], ?_, ?_⟩
  · intro x hx
    rcases List.mem_cons.1 hx with rfl | hx
    · exact hn.2.2.2
    · rcases List.mem_cons.1 hx with rfl | hx
      · exact w3
      · exact (w5 x hx).small
  · show (firstWrong m (p :: l) 1).isNone = true
    unfold firstWrong
    rw [if_pos (show wrongOf m p.node (1 == 1) = 0 from w4)]
    have : ∀ (l : List Stp) (i : Nat), 2 ≤ i → (∀ p ∈ l, Fine m p) → (firstWrong m l i).isNone = true := by
      intro l
      induction l with
      | nil => intro i _ _; rfl
      | cons x l ih =>
        intro i hi hf
        unfold firstWrong
        have hb : (i == 1) = false := by simp; omega
        rw [hb, if_pos (hf x List.mem_cons_self).right]
        exact ih (i + 1) (by omega) (fun p hp => hf p (List.mem_cons_of_mem _ hp))
    exact this l 2 (by omega) w5
theorem mend_alone (tw : Pr Ws (List Int)) (out : List Int) (key : Int) (g : Nat) (htw : ∀ s, tw s = match mendT0 key g s with
      | none => none
      | some (.wait, t) => some (.wait, t)
      | some (.ret _, t) => some (.ret out, t))
    (x : Ws) (l : List Stp) (hw : Walks x.ar key x.entry l) (h2 : 2 ≤ l.length) (hg : l.length < g) (hl : l.length < 1000) (hs : ∀ p ∈ l, p.node.Small) (hr : (firstWrong x.a (l.drop 1) 1).isNone = true) :
    aloneT tw 3000 x [] = some (some out, 3000 - (l.length - 1), x, refs l) := by
  have hrl : (refs l).length = l.length - 1 := by unfold refs; rw [List.length_map, List.length_drop]
  have hall : (l.all fun q => decide (q.node.pairs.length < 1000000) && decide (q.node.keys.length < 1000000) && decide (q.node.ways.length < 1000000)) = true := by
    rw [List.all_eq_true]
    intro q hq
    have := hs q hq
    simp [this.pairs, this.keys, this.ways]
  have h := alone_steps tw x (refs l) out (fun j hj => by
    have hp := path_goOn hw g [] x ((refs l).take j) 0 false rfl hg (by rw [List.length_take]; omega) (Nat.zero_le _) (fun i hi => by
      rw [List.length_take] at hi
      rw [Nat.zero_add, List.getElem?_take, if_pos (by omega)])
    have ho := goOn_once x ([] ++ l) (refs l) [] j hj
    rw [List.length_nil, List.nil_append] at ho
    rw [ho] at hp
    rw [htw]
    unfold mendT0
    simp only
    rw [hp]
    by_cases hj1 : j + 1 = (refs l).length
    · rw [if_pos hj1]
      simp only [List.nil_append]
      rw [if_pos ⟨by omega, hall, hr⟩]
      refine ⟨_, by rw [if_pos hj1], rfl, ?_⟩
      rw [hj1, List.take_length]
    · rw [if_neg hj1]
      exact ⟨_, by rw [if_neg hj1], rfl, rfl⟩) (refs l).length 0 3000 (by omega) (by omega) (by omega)
  rw [List.take_zero, hrl] at h
  exact h
theorem mx_nat (a b : Nat) : mx (a : Int) (b : Int) = ((max a b : Nat) : Int) := by
  unfold mx
  split <;> omega
def DeepOk (k : Nat) (s : Sh) : Prop := boscagelaw11_Shape_Deep.f k s.f0 s.f1 s.f2 s.f3 s.f4 = some (deepT s : Int)
theorem deep_loop (l : List Sh) (hl : l.length ≤ 60) (k : Nat) (hk : ∀ s ∈ l, DeepOk k s ∧ deepT s < 999999) : ∀ (n i : Nat) (acc : Nat), i + n = l.length → acc < 1000000 → boscagelaw11_Shape_Deep.l0 (k + n + 1) (acc : Int) l (l.length : Int) (i : Int) = some ((max acc (deepL (l.drop i)) : Nat) : Int)
  | 0, i, acc, h, hm => by
    unfold boscagelaw11_Shape_Deep.l0
    rw [if_neg (by omega), List.drop_of_length_le (by omega), deepL, Nat.max_zero]
  | n + 1, i, acc, h, hm => by
    have hi : i < l.length := by omega
    have hg : l[i]? = some l[i] := List.getElem?_eq_getElem hi
    have hd : l.drop i = l[i] :: l.drop (i + 1) := List.drop_eq_getElem_cons hi
    rw [hd, deepL]
    obtain ⟨h0, h9⟩ := hk _ (List.getElem_mem hi)
    have h1 : DeepOk (k + n + 1) l[i] := mono_le (fun j => boscagelaw11_Shape_Deep.mono _ _ _ _ _ j) (by omega) h0
    unfold boscagelaw11_Shape_Deep.l0
    rw [if_pos (by omega), if_pos (by omega), if_pos (by omega), rd_T_at hg]
    rw [show boscagelaw11_Shape_Deep.f (k + (n + 1)) l[i].f0 l[i].f1 l[i].f2 l[i].f3 l[i].f4 = some (deepT l[i] : Int) from h1]
    rw [Option.bind_some, show wrap64 (1 + (deepT l[i] : Int)) = ((deepT l[i] + 1 : Nat) : Int) from by unfold wrap64; omega, mx_nat, show wrap64 ((i : Int) + 1) = ((i + 1 : Nat) : Int) from by unfold wrap64; omega]
    rw [show k + (n + 1) = k + n + 1 from rfl, deep_loop l hl k hk n (i + 1) (max acc (deepT l[i] + 1)) (by omega) (by omega)]
    congr 1
    omega
theorem deep_ok : ∀ (d : Nat) (s : Sh), deepT s ≤ d → d < 900000 → slimT s → DeepOk (62 * (d + 1)) s := by
  intro d
  induction d with
  | zero =>
    intro s hd hlt hs
    have hk : s.f4 = [] := by
      rw [deepT_eq] at hd
      cases h : s.f4 with
      | nil => rfl
      | cons k r => rw [h, deepL] at hd; omega
    unfold DeepOk boscagelaw11_Shape_Deep.f
    rw [deepT_eq, hk]
    unfold boscagelaw11_Shape_Deep.l0
    rfl
  | succ d ih =>
    intro s hd hlt hs
    rw [deepT_eq] at hd
    rw [slimT_eq] at hs
    have hall : ∀ (l : List Sh), deepL l ≤ d + 1 → slimL l → ∀ q ∈ l, DeepOk (62 * (d + 1)) q ∧ deepT q < 999999 := by
      intro l
      induction l with
      | nil => intro _ _ q hq; cases hq
      | cons k r ihr =>
        intro h1 h2 q hq
        rw [deepL] at h1
        rw [slimL] at h2
        rcases List.mem_cons.1 hq with rfl | hq
        · exact ⟨ih _ (by omega) (by omega) h2.1, by omega⟩
        · exact ihr (by omega) h2.2 q hq
    have h1 := deep_loop s.f4 hs.2.2.1 (62 * (d + 1)) (hall s.f4 (by omega) hs.2.2.2) s.f4.length 0 0 (by omega) (by omega)
    rw [List.drop_zero, Nat.zero_max] at h1
    have h2 : DeepOk (62 * (d + 1) + s.f4.length + 2) s := by
      unfold DeepOk
      rw [deepT_eq]
      show boscagelaw11_Shape_Deep.f (62 * (d + 1) + s.f4.length + 1 + 1) _ _ _ _ _ = _
      unfold boscagelaw11_Shape_Deep.f
      exact h1
    exact mono_le (fun j => boscagelaw11_Shape_Deep.mono _ _ _ _ _ j) (by have := hs.2.2.1; omega) h2
theorem rising_f60 (ks : List Int) (hl : ks.length ≤ 60) : ∃ r, boscagelaw02_Rising.f (130 + ks.length + 1) ks = some r ∧ r.length ≤ 60 := by
  obtain ⟨r, h1, h2⟩ := rising_some ks hl ks.length 0 [] (by omega) (by simp)
  rw [Int.natCast_zero] at h1
  exact ⟨r, h1, by omega⟩
theorem menderT_eq (key : Int) (g : Nat) (s : TS Ws) (b : Bool) (h : ∀ b t, mendT0 key g s = some (.ret b, t) → b = false) : menderT key g s = match mendT0 key g s with
      | none => none
      | some (.wait, t) => some (.wait, t)
      | some (.ret _, t) => some (.ret [0], t) := by
  unfold menderT prBind
  cases hm : mendT0 key g s with
  | none => rfl
  | some r =>
    obtain ⟨o, t⟩ := r
    cases o with
    | wait => rfl
    | ret b => rw [h b t hm]; rfl
theorem mendT0_false (key : Int) (g : Nat) (s : TS Ws) (b : Bool) (t : TS Ws) (h : mendT0 key g s = some (.ret b, t)) : b = false := by
  unfold mendT0 at h
  split at h
  · cases h
  · injection h with h; injection h with h _; cases h
  · split at h
    · injection h with h; injection h with h _; injection h with h; exact h.symm
    · cases h
theorem wrap_four (m : Nat) (h : m ≤ 930) : wrap64 (wrap64 (2 + (m : Int)) + 2) = 4 + (m : Int) := by unfold wrap64; omega
theorem wrap_one_n (m : Nat) (h : m ≤ 930) : (1 : Int) + (m : Int) = wrap64 (1 + (m : Int)) := by unfold wrap64; omega
theorem steps_left (n d : Nat) (h : n = d + 2) (hd : d ≤ 930) : ((3000 - (3000 - (n - 1)) : Nat) : Int) = wrap64 (1 + (d : Int)) := by
  subst h
  unfold wrap64
  omega
theorem nodes_range (m : Nat) (h : m ≤ 930) : (2 : Int) ≤ 4 + (m : Int) ∧ 4 + (m : Int) ≤ 65536 ∧ (2 + (m : Int)) ≤ 4 + (m : Int) := by omega
theorem rfacts (keys : List Int) (b0 key : Int) (hk : keys.length ≤ 60) (h0 : 0 ≤ b0) (h1 : b0 < 256) : ∃ kf k k2 kd ys wd s m nodes dp x0 X f g log, RFacts keys b0 key kf k k2 kd ys wd s m nodes dp x0 X f g log := by
  obtain ⟨ys, r1, r2⟩ := rising_f60 keys hk
  obtain ⟨wd, w1, w2, w3⟩ := wide_f b0 h0 h1
  obtain ⟨g1, g2, g3⟩ := evenT_good60 ys wd r2 w2 w3
  have m9 : manyT (evenT ys wd) ≤ 930 := by omega
  have m1 : manyT (evenT ys wd) < 1000000 := by omega
  have d4 : deepT (evenT ys wd) ≤ 40 := by omega
  obtain ⟨d, hd⟩ := evenT_root ys wd r2 w2 w3
  have hdd := rootT_deep (by omega) hd
  obtain ⟨a, p1, p2, p3, p4, r, p5, p6⟩ := plant_tree (evenT ys wd) (((wd + 1) / 2 : Nat) : Int) wd (4 + manyT (evenT ys wd) : Int) ⟨[], 2⟩ ⟨0, List.replicate 1 (-1), List.replicate 1 []⟩ g3 (by omega) (by omega) (by omega) (by omega)
  obtain ⟨l, q1, q2, q3, q4⟩ := walks_entry ((wd + 1) / 2) key a d (evenT ys wd) r qEntry _ p5 ⟨rfl, rfl, rfl, ⟨by show (0 : Nat) < _; omega, by show (0 : Nat) < _; omega, by show (1 : Nat) < _; omega⟩⟩ rfl hd g3 (by omega) p6
  have hru := mend_alone (menderT key 100) [0] key 100 (fun s => menderT_eq key 100 s false (fun b t h => mendT0_false key 100 s b t h)) ⟨a, ⟨[], 2⟩, ⟨0, List.replicate 1 (-1), List.replicate 1 []⟩, (((wd + 1) / 2 : Nat) : Int), wd, qEntry⟩ l q1 (by omega) (by omega) (by omega) q3 q4
  obtain ⟨X, hX⟩ : ∃ X : Ws, X = ⟨a, ⟨[], 2⟩, ⟨0, List.replicate 1 (-1), List.replicate 1 []⟩, (((wd + 1) / 2 : Nat) : Int), wd, qEntry⟩ := ⟨_, rfl⟩
  rw [← hX] at p1 hru
  have hgood : X.Good := by
    rw [hX]
    exact ⟨p2, ⟨by show (List.replicate 1 (-1 : Int)).length ≤ 64; decide⟩, ⟨by show (2 : Int) ≤ 65536; decide, by show (0 : Int) ≤ 2; decide, fun i e hi => by simp at hi⟩⟩
  have hread : Ws.read X = (evenT ys wd, X.ar) := by
    rw [hX]
    exact read_tree p5 rfl p6 d4 _ _ _ _
  have hused : X.ar.used = wrap64 (1 + (manyT (evenT ys wd) : Int)) := by
    rw [hX]
    show a.used = _
    rw [p3]
    exact wrap_one_n _ m9
  have hrecs : X.tb.l.length = 0 := by rw [hX]; rfl
  have hsteps : ((3000 - (3000 - (l.length - 1)) : Nat) : Int) = wrap64 (1 + (deepT (evenT ys wd) : Int)) := by
    rw [hdd]
    exact steps_left _ _ q2 (hdd ▸ Nat.le_trans d4 (by decide))
  have hno : wrap64 (wrap64 (2 + (manyT (evenT ys wd) : Int)) + 2) = 4 + (manyT (evenT ys wd) : Int) := wrap_four _ m9
  exact ⟨_, _, _, _, ys, wd, evenT ys wd, (manyT (evenT ys wd) : Int), 4 + (manyT (evenT ys wd) : Int), (deepT (evenT ys wd) : Int), _, X, 100, 3000 - (l.length - 1), refs l, {
    rising := r1
    len := r2
    wide := w1
    w3 := w2
    w8 := w3
    even := rfl
    many := many_ok 40 _ d4 g3 m1
    nodesEq := hno
    n2 := (nodes_range _ m9).1
    n6 := (nodes_range _ m9).2.1
    new := ws0_any _ _ _ _ 1 (nodes_range _ m9).1
    plant := p1
    good := hgood
    deep := deep_ok 40 _ d4 (by decide) g3
    fuel := by decide
    runs := hru
    steps := hsteps
    read := hread
    same := same_ok 40 _ d4 g3
    used := hused
    recs := hrecs }⟩
theorem right_calls (A : Option Addr) (c : Nat) (keys : List Int) (b0 key : Int) (w : World) (hC : (Kd.int .i64).C w A keys.length keys) (hc : keys.length ≤ c) (h0 : 0 ≤ b0) (h1 : b0 < 256) :
    Calls Tryz.prog 3 #[.slice A keys.length c, .int .u8 b0, .int .i64 key] w fun e w1 => e = .returned (.bool true) ∧ Below w.heap.size w w1 := by
  by_cases h : 60 < keys.length
  · exact right_short A c keys b0 key w h
  · obtain ⟨kf, k, k2, kd, ys, wd, s, m, nodes, dp, x0, X, f, g, log, hf⟩ := rfacts keys b0 key (by omega) h0 h1
    exact right_walk A c keys b0 key w hC hc (by omega) hf
theorem u8_rng {b : Int} (h : (Lit.int .u8 b).wf = true) : 0 ≤ b ∧ b < 256 := by
  obtain ⟨h1, h2⟩ := (Bool.and_eq_true _ _).mp h
  have h1 := of_decide_eq_true h1
  have h2 := of_decide_eq_true h2
  rw [show IntKind.u8.min = 0 from rfl] at h1
  rw [show IntKind.u8.max = 255 from rfl] at h2
  exact ⟨h1, by omega⟩
theorem right_law (A : Option Addr) (c : Nat) (keys : List Int) (b0 key : Int) (w : World) (hC : (Kd.int .i64).C w A keys.length keys) (hc : keys.length ≤ c) (hw : ∀ n ∈ keys, (Lit.int .i64 n).wf = true) (wb : (Lit.int .u8 b0).wf = true) (wk : (Lit.int .i64 key).wf = true) :
    Calls Tryz.prog 3 #[.slice A keys.length c, .int .u8 b0, .int .i64 key] w fun e w1 => e = .returned (.bool true) ∧ Below w.heap.size w w1 :=
  right_calls A c keys b0 key w hC hc (u8_rng wb).1 (u8_rng wb).2
end Go.Proofs.YtelmidpepojbdaaGreat.Tower
namespace Go.Proofs.YtelmidpepojbdaaGreat.mendRight
open Go Go.ChangeShapes Go.WideShapes Go.ChangeAt Go.RowKit Go.Joins Go.Deep
open Go.Proofs.YtelmidpepojbdaaGreatW.PrintWords (Kd ReadsInt.ofRowC Kd.C_of_reads)
set_option linter.unusedVariables false
theorem own : ownKnob Tryz.prog.godebug = none := by kernel_rfl
theorem laidOut : laidOutB Tryz.prog = true := by kernel_rfl
def IsRow (k : IntKind) (w : World) (a : Option Addr) (len cap : Nat) (zs : List Int) : Prop :=
  (a = none ∧ len = 0 ∧ cap = 0 ∧ zs = []) ∨
  ∃ x, a = some x ∧ len ≤ cap ∧ cap ≤ maxLen ∧ zs.length = cap ∧ (∀ i, i < zs.length → w.cell? (x.add i) = some (.int k (zs.getD i 0))) ∧ ∀ n ∈ zs, (Lit.int k n).wf = true
set_option maxRecDepth 100000 in
theorem lifted (os : Os) (started : os.Started) (H : Type) (enc : TypeId × Value → H) :
    ReturnsInHanded {} Tryz.checked os 3 .any (Rows.mendRightSpec.pre6 enc Tryz.prog Tryz.f3 Rows.mendRightRow.domain false) (Rows.mendRightSpec.post enc Tryz.prog Tryz.f3 false true false false) := by
  refine returnsInHanded_of_change_sized (C := Tryz.checked) own started (by kernel_rfl) Tryz.func3
    (ChangeSpec.witness6 (enc := enc) (C := Tryz.checked) false ⟨#[], #[.slice none 0 0, .int .u8 0, .int .i64 0], []⟩ 8 (by kernel_rfl) (by kernel_rfl) (by kernel_rfl) (by kernel_rfl)) ?_
  intro W base args ds gs before hval0 hW hcnd hsz0 _
  have hval : ∀ (j : Nat) t v, Tryz.f3.params[j]? = some t → args[j]? = some v → Value.okWide Tryz.prog W .any base t v := hval0
  have hW' := hW
  obtain ⟨p, q, hA0, hV, rfl, hfz, hnd⟩ := hW
  have hA : DataW.TrodAll enc Tryz.prog W 0 (fun _ => true) true Tryz.f3.params.toList args.toList ds p := hA0
  rw [Tryz.params3] at hA hval
  obtain ⟨v0, vs0, d0, ds0, p0, q0, hargs, rfl, rfl, h0, r0⟩ := trodAll_cons hA
  obtain ⟨v1, vs1, d1, ds1, p1, q1, rfl, rfl, rfl, h1, r1⟩ := trodAll_cons r0
  obtain ⟨v2, vs2, d2, ds2, p2, q2, rfl, rfl, rfl, h2, r2⟩ := trodAll_cons r1
  obtain ⟨rfl, rfl, rfl⟩ := trodAll_nil r2
  obtain rfl : args = #[v0, v1, v2] := by cases args; simp_all
  obtain ⟨rfl, rfl⟩ := trodVars_none hV
  obtain ⟨a0, len0, cap0, rfl⟩ := okWide_slice Tryz.underlying22 (hval 0 22 v0 rfl rfl)
  have k0 := h0
  have lt0 : ∀ x ∈ p0, x.block < W.heap.size := by obtain ⟨m, hm⟩ := k0; exact DataW.trod_lt m _ _ _ hm
  obtain ⟨z0, w0⟩ : ∃ zs, IsRow .i64 W a0 len0 cap0 zs := by
    obtain ⟨fuel, hf⟩ := h0
    rcases open_ints Tryz.underlying22 Tryz.underlying2 (by kernel_rfl) hf with ⟨hcs, _⟩ | ⟨x, l, c, zs, hcs, _, hl, hm, hz, _, hcell, hwz⟩
    · simp [Value.cells] at hcs
      obtain ⟨rfl, rfl, rfl⟩ := hcs
      exact ⟨[], .inl ⟨rfl, rfl, rfl, rfl⟩⟩
    · simp [Value.cells] at hcs
      obtain ⟨rfl, rfl, rfl⟩ := hcs
      exact ⟨zs, .inr ⟨_, rfl, hl, hm, by simpa using hz, hcell, hwz⟩⟩
  obtain ⟨l0, rfl, hr0, hm0, hw0, hc0⟩ := ReadsInt.ofRowC w0
  obtain ⟨a1, rfl, rfl, rfl, wa1⟩ := open_int Tryz.underlying5 (hval 1 5 v1 rfl rfl) h1
  obtain ⟨a2, rfl, rfl, rfl, wa2⟩ := open_int Tryz.underlying2 (hval 2 2 v2 rfl rfl) h2
  clear hA0 hval0 hsz0
  refine (Tower.right_law a0 cap0 l0 a1 a2 W (Kd.C_of_reads (d := (0 : Int)) (h1 := fun _ => rfl) hr0) hc0 hw0 wa1 wa2).mono fun e W' ⟨he, bel⟩ => ?_
  subst he
  exact ⟨_, rfl, _, _, _, [], _, [], hW', trodAll_mk1 (shut_bool Tryz.underlying4 _), (trodAll_cons_mk (Below.trod laidOut (by kernel_rfl) (of_decide_eq_true (by kernel_rfl)) k0 bel lt0) (trodAll_cons_mk (shut_int Tryz.underlying5 wa1) (trodAll_cons_mk (shut_int Tryz.underlying2 wa2) trodAll_mk0))), rfl, bel.frame _, fun h => by cases h⟩
theorem over : Rows.mendRightRow.holds Tryz.pinned (OpenSpec.ofChange Rows.mendRightSpec) :=
  OpenClaim.holds_of_wide 3 Tryz.f3 rfl rfl rfl rfl rfl rfl rfl ⟨rfl, rfl, rfl, rfl, rfl⟩ rfl rfl rfl rfl rfl (by kernel_rfl) Tryz.func3 (by kernel_rfl)
    (of_decide_eq_true (by kernel_rfl)) (by unfold Func.isWrapper; first | (rw [if_pos (by decide +kernel)]; kernel_rfl) | (rw [if_neg (by decide +kernel)]; exact ⟨rfl, rfl⟩))
    (fun os started H enc _ => lifted os started H enc)
theorem proved : Rows.MendRightSaid := over
#print axioms proved
end Go.Proofs.YtelmidpepojbdaaGreat.mendRight
namespace Go.Proofs.YtelmidpepojbdaaGreat
theorem mendRight_holds : Rows.MendRightSaid := mendRight.proved
end Go.Proofs.YtelmidpepojbdaaGreat
