/- Words and contracts that the claim stands on, part 4 of 5. -/
import Derived.Test.YtelmidpepojbdaaGreatGMendRight0
import Derived.Test.YtelmidpepojbdaaGreatGMendRight1
import Derived.Test.YtelmidpepojbdaaGreatGMendRight2
namespace Go.Proofs.YtelmidpepojbdaaGreat.PMendRight
open Go.RowKit Go.Proofs.YtelmidpepojbdaaGreatW.PrintWords Go.Proofs.YtelmidpepojbdaaGreatW.PrintLast Go.Proofs.YtelmidpepojbdaaGreatW.PrintMore
attribute [local go_sem] max2_int min2_int max_two min_two max_three min_three max_four min_four
set_option linter.unusedVariables false
set_option linter.unusedSimpArgs false
def IsS129 (w0 W : World) (g : Nat) (f0 : List (S190)) (f1 : List Int) (f2 : Int) (f3 : Int) (f4 : Int) : Prop := ∃ A0 c0, ∃ A1 c1, W.heap[g]? = some (.cells #[.slice A0 f0.length c0, .slice A1 f1.length c1, .int .i64 f2, .int .i64 f3, .int .i64 f4] 129 (0, 0)) ∧ w0.heap.size ≤ g ∧ Kd.C k190 w0 A0 f0.length f0 ∧ Kd.C (Kd.int .i64) w0 A1 f1.length f1
theorem IsS129.grown {w0 W : World} {g : Nat} {f0 : List (S190)} {f1 : List Int} {f2 : Int} {f3 : Int} {f4 : Int} {W1 : World} {row : Option Nat} (h : IsS129 w0 W g f0 f1 f2 f3 f4) (hw : W.grownBy W1 row) (hne : some g ≠ row) : IsS129 w0 W1 g f0 f1 f2 f3 f4 := by
  obtain ⟨A0, c0, A1, c1, hb, hg, hr0, hr1⟩ := h
  exact ⟨A0, c0, A1, c1, blk_grown hb hw hne, hg, hr0, hr1⟩
theorem IsS129.fresh {w0 W : World} {g : Nat} {f0 : List (S190)} {f1 : List Int} {f2 : Int} {f3 : Int} {f4 : Int} (h : IsS129 w0 W g f0 f1 f2 f3 f4) : ∀ k, W.heap.size ≤ k → k ≠ g := by
  obtain ⟨A0, c0, A1, c1, hb, hg, hr0, hr1⟩ := h
  exact Kd.freshB hb
theorem IsS129.kept {w0 W : World} {g : Nat} {f0 : List (S190)} {f1 : List Int} {f2 : Int} {f3 : Int} {f4 : Int} {W1 : World} {S : Nat → Prop} (h : IsS129 w0 W g f0 f1 f2 f3 f4) (hk : Kept W W1 S) (hne : ¬ S g) : IsS129 w0 W1 g f0 f1 f2 f3 f4 := by
  obtain ⟨A0, c0, A1, c1, hb, hg, hr0, hr1⟩ := h
  exact ⟨A0, c0, A1, c1, blk_kept hb hk hne, hg, hr0, hr1⟩
theorem IsS129.below {w0 W : World} {g : Nat} {f0 : List (S190)} {f1 : List Int} {f2 : Int} {f3 : Int} {f4 : Int} {W1 : World} (h : IsS129 w0 W g f0 f1 f2 f3 f4) (hw : Below W.heap.size W W1) : IsS129 w0 W1 g f0 f1 f2 f3 f4 := h.grown (grown_of_below hw none) (by simp)
theorem IsS129.alloc {w0 W : World} {g : Nat} {f0 : List (S190)} {f1 : List Int} {f2 : Int} {f3 : Int} {f4 : Int} (h : IsS129 w0 W g f0 f1 f2 f3 f4) (o : Obj) : IsS129 w0 (W.alloc o) g f0 f1 f2 f3 f4 := h.below (below_alloc (Below.refl _ _) o)
theorem IsS129.drewN {w0 W : World} {g : Nat} {f0 : List (S190)} {f1 : List Int} {f2 : Int} {f3 : Int} {f4 : Int} (h : IsS129 w0 W g f0 f1 f2 f3 f4) (m : Nat) : IsS129 w0 (W.drewN m) g f0 f1 f2 f3 f4 := h
theorem IsS129.drew {w0 W : World} {g : Nat} {f0 : List (S190)} {f1 : List Int} {f2 : Int} {f3 : Int} {f4 : Int} (h : IsS129 w0 W g f0 f1 f2 f3 f4) : IsS129 w0 W.drew g f0 f1 f2 f3 f4 := h
theorem IsS129.at_ {w0 W : World} {g : Nat} {f0 : List (S190)} {f1 : List Int} {f2 : Int} {f3 : Int} {f4 : Int} {w' : World} {m : Nat} (hq : W.drewN m = w') (h : IsS129 w0 W g f0 f1 f2 f3 f4) : IsS129 w0 w' g f0 f1 f2 f3 f4 := by subst hq; exact IsS129.drewN h m
theorem IsS129.apart {w0 W : World} {g : Nat} {f0 : List (S190)} {f1 : List Int} {f2 : Int} {f3 : Int} {f4 : Int} {α : Type} {d : Kd α} {e : Nat} {base : Nat} {ok : Nat → Prop} {v : Value} {xs : List α} (h : IsS129 w0 W g f0 f1 f2 f3 f4) (ho : d.R e W base ok v xs) (ht : ∀ q, q ∈ e :: d.E → q ≠ 129) : d.R e W base (fun k => ok k ∧ k ≠ g) v xs := by
  obtain ⟨A0, c0, A1, c1, hb, hg, hr0, hr1⟩ := h
  exact Kd.R_types ho hb ht
theorem IsS129.own_ne {w0 W : World} {g : Nat} {f0 : List (S190)} {f1 : List Int} {f2 : Int} {f3 : Int} {f4 : Int} {α : Type} {d : Kd α} {e : Nat} {base : Nat} {ok : Nat → Prop} {v : Value} {xs : List α} (h : IsS129 w0 W g f0 f1 f2 f3 f4) (ho : d.R e W base ok v xs) (ht : e ≠ 129) : some g ≠ v.ownBlock := by
  obtain ⟨A0, c0, A1, c1, hb, hg, hr0, hr1⟩ := h
  exact Kd.R_ne ho hb ht
theorem IsS129.lt {w0 W : World} {g : Nat} {f0 : List (S190)} {f1 : List Int} {f2 : Int} {f3 : Int} {f4 : Int} (h : IsS129 w0 W g f0 f1 f2 f3 f4) : g < W.heap.size := by
  obtain ⟨A0, c0, A1, c1, hb, hg, hr0, hr1⟩ := h
  exact blk_lt hb
theorem IsS129.far {w0 W : World} {g : Nat} {f0 : List (S190)} {f1 : List Int} {f2 : Int} {f3 : Int} {f4 : Int} {p : Addr} (h : IsS129 w0 W g f0 f1 f2 f3 f4) (hne : g ≠ p.block) (u : Value) : IsS129 w0 (W.setCell p u) g f0 f1 f2 f3 f4 := by
  obtain ⟨A0, c0, A1, c1, hb, hg, hr0, hr1⟩ := h
  exact ⟨A0, c0, A1, c1, blk_far hb hne u, hg, hr0, hr1⟩
theorem IsS129.new (w0 W : World) (A0 : Option Addr) (c0 : Nat) (A1 : Option Addr) (c1 : Nat) (f0 : List (S190)) (f1 : List Int) (f2 : Int) (f3 : Int) (f4 : Int) (hB : Below w0.heap.size w0 W) (hr0 : Kd.C k190 w0 A0 f0.length f0) (hr1 : Kd.C (Kd.int .i64) w0 A1 f1.length f1) : IsS129 w0 (W.alloc (.cells #[.slice A0 f0.length c0, .slice A1 f1.length c1, .int .i64 f2, .int .i64 f3, .int .i64 f4] 129)) W.heap.size f0 f1 f2 f3 f4 := ⟨A0, c0, A1, c1, by simpa using heap_alloc_new W _, hB.size, hr0, hr1⟩
def arena_New.f (a0 : Int) : Option ((List (S190)) × List Int × Int × Int × Int) := some (([] : List (S190)), ([] : List Int), mn (mx a0 0) 65536, 0, 0)
set_option maxHeartbeats 8000000 in
set_option maxRecDepth 100000 in
theorem arena_New.calls (a0 : Int) (r1 : List (S190)) (r2 : List Int) (r3 : Int) (r4 : Int) (r5 : Int) (w0 w : World) (hB : Below w0.heap.size w0 w) (h : arena_New.f a0 = some (r1, r2, r3, r4, r5)) :
    Calls Tryz.prog 106 #[.int .i64 a0] w fun e w' => ∃ g_ : Nat, e = .returned (.pointer (some ⟨g_, 0, none⟩)) ∧ IsS129 w0 w' g_ r1 r2 r3 r4 r5 ∧ Below w0.heap.size w0 w' ∧ Below w.heap.size w w' := by
  have hu129 := Tryz.underlying129
  have HBW := Aside0.mk (Below.refl w.heap.size w)
  have HW0 := Aside0.mk hB.size
  have HB := Aside0.mk hB
  clear hB
  have H : (some (([] : List (S190)), ([] : List Int), mn (mx a0 0) 65536, 0, 0)) = some (r1, r2, r3, r4, r5) := h
  clear h
  obtain ⟨ji2, hji2⟩ : ∃ j_ : Int, (mx a0 0) = j_ := ⟨_, rfl⟩
  replace H : (some (([] : List (S190)), ([] : List Int), mn (ji2) 65536, 0, 0)) = some (r1, r2, r3, r4, r5) := by first | (rw [hji2] at H; exact H) | (simp only [hji2] at H ⊢; exact H)
  (try (have hji2l : 0 ≤ ji2 := by (rw [← hji2]; unfold mx; (repeat' split) <;> omega)))
  (try (have hji2m : 0 ≤ ji2 := by omega))
  have hji2_ : (if a0 < 0 then 0 else a0) = ji2 := hji2
  obtain ⟨ji3, hji3⟩ : ∃ j_ : Int, (mn (ji2) 65536) = j_ := ⟨_, rfl⟩
  replace H : (some (([] : List (S190)), ([] : List Int), ji3, 0, 0)) = some (r1, r2, r3, r4, r5) := by first | (rw [hji3] at H; exact H) | (simp only [hji3] at H ⊢; exact H)
  have hji3_ : (if 65536 < (ji2) then 65536 else (ji2)) = ji3 := hji3
  simp only [Option.some.injEq, Prod.mk.injEq] at H
  obtain ⟨rfl, rfl, rfl, rfl, rfl⟩ := H
  go_enter Tryz.func106, Tryz.ntmps106
  go_wp2_with (first | ((with_reducible refine gate_dst (N := 7) rfl ?_); refine box_event ?hg (N := 7) ?hd (cs := #[.slice none 0 0, .slice none 0 0, .int .i64 ji3, .int .i64 0, .int .i64 0]) (t := 129) ?hr ?_; (case hd => rfl); (case hg => rfl); (case hr => first | (go_simp; done) | (go_simp; rfl)); intro gb101 hg w4 hbox hb; have n0_ := Aside0.mk (below_step HBW.out hb); have n1_ := Aside0.mk (below_step (by repeat (first | (with_reducible first | exact HB.out | apply below_alloc | apply pw_below_drewN | apply below_drew1) | exact HB.out)) hb); have n2_ := Aside0.mk (hbox); have n3_ := Aside0.mk ((by rw [hg]; exact (below_size (by repeat (first | (with_reducible first | exact HBW.out | apply below_alloc | apply pw_below_drewN | apply below_drew1) | exact HBW.out))) : w.heap.size ≤ gb101)); have n4_ := Aside0.mk ((Nat.le_trans HW0.out (by rw [hg]; exact (below_size (by repeat (first | (with_reducible first | exact HBW.out | apply below_alloc | apply pw_below_drewN | apply below_drew1) | exact HBW.out))) : w.heap.size ≤ gb101) : w0.heap.size ≤ gb101)); clear HBW; clear HB; have HBW := n0_; have HB := n1_; have BK101 := n2_; have GW101 := n3_; have GE101 := n4_; clear n0_ n1_ n2_ n3_ n4_; clear hb hbox hg))
  go_ret
  exact ⟨_, rfl, (show IsS129 w0 _ gb101 ([] : List (S190)) ([] : List Int) ji3 0 0 from ⟨none, 0, none, 0, by (with_reducible repeat (first | refine blk_drewN ?_ _ | refine blk_drew ?_ | refine blk_alloc ?_ _)); exact BK101.out, GE101.out, (Kd.C_nil _ _), (Kd.C_nil _ _)⟩), by repeat (first | (with_reducible first | exact HB.out | apply below_alloc | apply pw_below_drewN | apply below_drew1 | refine below_set ?_ GE101.out) | exact HB.out), by repeat (first | (with_reducible first | exact HBW.out | apply below_alloc | apply pw_below_drewN | apply below_drew1 | refine below_set ?_ GW101.out) | exact HBW.out)⟩
def ref_Of.f (a0 : Int) (a1 : Int) : Option (Int) := some (Go.bits .or .i64 (wrap64 ((wrap64 (Go.bits .and .u32 a1 8388607)) * 1099511627776)) (Go.bits .and .i64 (wrap64 (a0 + 1)) 1099511627775))
set_option maxHeartbeats 8000000 in
set_option maxRecDepth 100000 in
theorem ref_Of.calls (a0 : Int) (a1 : Int) (r : Int) (w : World) (h : ref_Of.f a0 a1 = some r) :
    Calls Tryz.prog 161 #[.int .i64 a0, .int .u32 a1] w fun e w' => e = .returned (.int .i64 r) ∧ Drawn0 w w' := by
  have H : (some (Go.bits .or .i64 (wrap64 ((wrap64 (Go.bits .and .u32 a1 8388607)) * 1099511627776)) (Go.bits .and .i64 (wrap64 (a0 + 1)) 1099511627775))) = some r := h
  clear h
  obtain rfl := Option.some.inj H
  go_enter Tryz.func161, Tryz.ntmps161
  go_wp2
  go_ret
  exact ⟨by first | rfl | (simp; done) | (simp [*]; done), by repeat (first | exact Drawn0.refl _ | apply Drawn0.step)⟩
mutual
def mend_Look.j0 : Nat → Bool → Int → Int → Bool → Bool → List (S106) → List Int → List Int → Option (Int)
  | 0, _, _, _, _, _, _, _, _ => none
  | k + 1, x2, x7, x8, x111000, x111001, x111002, x111003, x111004 => if x2 = true then (mend_Look.j1 k x2 x7 x8 x111000 x111000 x111001 x111002 x111003 x111004) else (mend_Look.j1 k x2 x7 x8 false x111000 x111001 x111002 x111003 x111004)
def mend_Look.j2 : Nat → Int → Int → Bool → Bool → List (S106) → List Int → List Int → Option (Int)
  | 0, _, _, _, _, _, _, _ => none
  | k + 1, x7, x8, x111000, x111001, x111002, x111003, x111004 => if x111001 = true then (some 1) else (if x7 < x8 then (some 2) else (some 0))
def mend_Look.j1 : Nat → Bool → Int → Int → Bool → Bool → Bool → List (S106) → List Int → List Int → Option (Int)
  | 0, _, _, _, _, _, _, _, _, _ => none
  | k + 1, x2, x7, x8, x19, x111000, x111001, x111002, x111003, x111004 => if x19 = true then (mend_Look.j2 k x7 2 x111000 x111001 x111002 x111003 x111004) else (if x2 = true then (mend_Look.j2 k x7 0 x111000 x111001 x111002 x111003 x111004) else (mend_Look.j2 k x7 x8 x111000 x111001 x111002 x111003 x111004))
end
def mend_Look.f (k : Nat) (a0 : Int) (a1_0 : Bool) (a1_1 : Bool) (l1_2 : List (S106)) (l1_3 : List Int) (l1_4 : List Int) (a2 : Bool) : Option (Int) := if a1_0 = true then (mend_Look.j0 k a2 (l1_4.length : Int) a0 a1_0 a1_1 l1_2 l1_3 l1_4) else (mend_Look.j0 k a2 (l1_2.length : Int) a0 a1_0 a1_1 l1_2 l1_3 l1_4)
theorem mend_Look.mono_l : ∀ k, (∀ y0 y1 y2 y3 y4 y5 y6 y7, LeO (mend_Look.j0 k y0 y1 y2 y3 y4 y5 y6 y7) (mend_Look.j0 (k + 1) y0 y1 y2 y3 y4 y5 y6 y7)) ∧ (∀ y0 y1 y2 y3 y4 y5 y6, LeO (mend_Look.j2 k y0 y1 y2 y3 y4 y5 y6) (mend_Look.j2 (k + 1) y0 y1 y2 y3 y4 y5 y6)) ∧ (∀ y0 y1 y2 y3 y4 y5 y6 y7 y8, LeO (mend_Look.j1 k y0 y1 y2 y3 y4 y5 y6 y7 y8) (mend_Look.j1 (k + 1) y0 y1 y2 y3 y4 y5 y6 y7 y8))
  | 0 => ⟨fun _ _ _ _ _ _ _ _ r h => by simp [mend_Look.j0] at h, fun _ _ _ _ _ _ _ r h => by simp [mend_Look.j2] at h, fun _ _ _ _ _ _ _ _ _ r h => by simp [mend_Look.j1] at h⟩
  | k + 1 => by
    obtain ⟨ih0, ih1, ih2⟩ := mend_Look.mono_l k
    refine ⟨?_, ?_, ?_⟩
    · intro y0 y1 y2 y3 y4 y5 y6 y7
      unfold mend_Look.j0
      repeat' first
      | (with_reducible exact ih0 _ _ _ _ _ _ _ _)
      | (with_reducible exact ih1 _ _ _ _ _ _ _)
      | (with_reducible exact ih2 _ _ _ _ _ _ _ _ _)
      | (with_reducible exact LeO.refl _)
      | (with_reducible exact LeO.none _)
      | (with_reducible refine LeO.ite ?_ ?_)
      | (with_reducible refine LeO.bind ?_ (fun _ => ?_))
      | exact ih0 _ _ _ _ _ _ _ _
      | exact ih1 _ _ _ _ _ _ _
      | exact ih2 _ _ _ _ _ _ _ _ _
      | exact LeO.none _
      | refine LeO.ite ?_ ?_
      | refine LeO.bind ?_ (fun _ => ?_)
    · intro y0 y1 y2 y3 y4 y5 y6
      unfold mend_Look.j2
      repeat' first
      | (with_reducible exact ih0 _ _ _ _ _ _ _ _)
      | (with_reducible exact ih1 _ _ _ _ _ _ _)
      | (with_reducible exact ih2 _ _ _ _ _ _ _ _ _)
      | (with_reducible exact LeO.refl _)
      | (with_reducible exact LeO.none _)
      | (with_reducible refine LeO.ite ?_ ?_)
      | (with_reducible refine LeO.bind ?_ (fun _ => ?_))
      | exact ih0 _ _ _ _ _ _ _ _
      | exact ih1 _ _ _ _ _ _ _
      | exact ih2 _ _ _ _ _ _ _ _ _
      | exact LeO.none _
      | refine LeO.ite ?_ ?_
      | refine LeO.bind ?_ (fun _ => ?_)
    · intro y0 y1 y2 y3 y4 y5 y6 y7 y8
      unfold mend_Look.j1
      repeat' first
      | (with_reducible exact ih0 _ _ _ _ _ _ _ _)
      | (with_reducible exact ih1 _ _ _ _ _ _ _)
      | (with_reducible exact ih2 _ _ _ _ _ _ _ _ _)
      | (with_reducible exact LeO.refl _)
      | (with_reducible exact LeO.none _)
      | (with_reducible refine LeO.ite ?_ ?_)
      | (with_reducible refine LeO.bind ?_ (fun _ => ?_))
      | exact ih0 _ _ _ _ _ _ _ _
      | exact ih1 _ _ _ _ _ _ _
      | exact ih2 _ _ _ _ _ _ _ _ _
      | exact LeO.none _
      | refine LeO.ite ?_ ?_
      | refine LeO.bind ?_ (fun _ => ?_)
theorem mend_Look.mono : ∀ a0 a1 a2 a3 a4 a5 a6 k, LeO (mend_Look.f k a0 a1 a2 a3 a4 a5 a6) (mend_Look.f (k + 1) a0 a1 a2 a3 a4 a5 a6) := by
  intro a0 a1 a2 a3 a4 a5 a6 k
  obtain ⟨ih0, ih1, ih2⟩ := mend_Look.mono_l k
  unfold mend_Look.f
  repeat' first
      | (with_reducible exact ih0 _ _ _ _ _ _ _ _)
      | (with_reducible exact ih1 _ _ _ _ _ _ _)
      | (with_reducible exact ih2 _ _ _ _ _ _ _ _ _)
      | (with_reducible exact LeO.refl _)
      | (with_reducible exact LeO.none _)
      | (with_reducible refine LeO.ite ?_ ?_)
      | (with_reducible refine LeO.bind ?_ (fun _ => ?_))
      | exact ih0 _ _ _ _ _ _ _ _
      | exact ih1 _ _ _ _ _ _ _
      | exact ih2 _ _ _ _ _ _ _ _ _
      | exact LeO.none _
      | refine LeO.ite ?_ ?_
      | refine LeO.bind ?_ (fun _ => ?_)
set_option maxHeartbeats 8000000 in
set_option maxRecDepth 100000 in
theorem mend_Look.calls (k : Nat) (a0 : Int) (a1_0 : Bool) (a1_1 : Bool) (A1_2 : Option Addr) (c1_2 : Nat) (l1_2 : List (S106)) (A1_3 : Option Addr) (c1_3 : Nat) (l1_3 : List Int) (A1_4 : Option Addr) (c1_4 : Nat) (l1_4 : List Int) (a2 : Bool) (r : Int) (w : World) (hr1_2 : Kd.C k106 w A1_2 l1_2.length l1_2) (hc1_2 : l1_2.length ≤ c1_2) (hr1_3 : Kd.C (Kd.int .i64) w A1_3 l1_3.length l1_3) (hc1_3 : l1_3.length ≤ c1_3) (hr1_4 : Kd.C (Kd.int .i64) w A1_4 l1_4.length l1_4) (hc1_4 : l1_4.length ≤ c1_4) (h : mend_Look.f k a0 a1_0 a1_1 l1_2 l1_3 l1_4 a2 = some r) :
    Calls Tryz.prog 69 #[.int .i64 a0, .agg #[.bool a1_0, .bool a1_1, .slice A1_2 l1_2.length c1_2, .slice A1_3 l1_3.length c1_3, .slice A1_4 l1_4.length c1_4], .bool a2] w fun e w' => e = .returned (.int .u8 r) ∧ Below w.heap.size w w' := by
  have hu116 := Tryz.underlying116
  have HR1_2 := Aside0.mk hr1_2
  have HC1_2 := Aside0.mk hc1_2
  clear hr1_2 hc1_2
  have HR1_3 := Aside0.mk hr1_3
  have HC1_3 := Aside0.mk hc1_3
  clear hr1_3 hc1_3
  have HR1_4 := Aside0.mk hr1_4
  have HC1_4 := Aside0.mk hc1_4
  clear hr1_4 hc1_4
  have HB := Aside0.mk (Below.refl w.heap.size w)
  have H : (if a1_0 = true then (mend_Look.j0 k a2 (l1_4.length : Int) a0 a1_0 a1_1 l1_2 l1_3 l1_4) else (mend_Look.j0 k a2 (l1_2.length : Int) a0 a1_0 a1_1 l1_2 l1_3 l1_4)) = some r := h
  clear h
  have HC4 := Aside0.mk H
  clear H
  go_enter Tryz.func69, Tryz.ntmps69
  go_upto_if 14 with (first | ((with_reducible refine gate_dst (N := 4) rfl ?_); refine box_event ?hg (N := 4) ?hd (cs := #[.bool a1_0, .bool a1_1, .slice A1_2 l1_2.length c1_2, .slice A1_3 l1_3.length c1_3, .slice A1_4 l1_4.length c1_4]) (t := 116) ?hr ?_; (case hd => rfl); (case hg => rfl); (case hr => first | (go_simp; done) | (go_simp; rfl)); intro gb110 hg w5 hbox hb; have n0_ := Aside0.mk (below_step (by repeat (first | (with_reducible first | exact HB.out | apply below_alloc | apply pw_below_drewN | apply below_drew1) | exact HB.out)) hb); have n1_ := Aside0.mk (hbox); have n2_ := Aside0.mk ((by rw [hg]; exact (below_size (by repeat (first | (with_reducible first | exact HB.out | apply below_alloc | apply pw_below_drewN | apply below_drew1) | exact HB.out))) : w.heap.size ≤ gb110)); have n3_ := Aside0.mk ((by rw [hg]; exact (below_size (by repeat (first | (with_reducible first | exact HB.out | apply below_alloc | apply pw_below_drewN | apply below_drew1) | exact HB.out))) : w.heap.size ≤ gb110)); clear HB; have HB := n0_; have BK110 := n1_; have GW110 := n2_; have GE110 := n3_; clear n0_ n1_ n2_ n3_; clear hb hbox hg; have hcz6_0 : w5.cell? ⟨gb110, 0, none⟩ = some (.bool a1_0) := (blk_cell BK110.out 0).trans rfl; have hcz6_1 : w5.cell? ⟨gb110, 1, none⟩ = some (.bool a1_1) := (blk_cell BK110.out 1).trans rfl; have hcz6_2 : w5.cell? ⟨gb110, 2, none⟩ = some (.slice A1_2 l1_2.length c1_2) := (blk_cell BK110.out 2).trans rfl; have hcz6_3 : w5.cell? ⟨gb110, 3, none⟩ = some (.slice A1_3 l1_3.length c1_3) := (blk_cell BK110.out 3).trans rfl; have hcz6_4 : w5.cell? ⟨gb110, 4, none⟩ = some (.slice A1_4 l1_4.length c1_4) := (blk_cell BK110.out 4).trans rfl; have hfz6_0 := blk_frozen BK110.out 0; have hfz6_1 := blk_frozen BK110.out 1; have hfz6_2 := blk_frozen BK110.out 2; have hfz6_3 := blk_frozen BK110.out 3; have hfz6_4 := blk_frozen BK110.out 4))
  (try simp only [Act.put, u1_, u2_, u3_])
  go_cut [7] (fun v7 wc => ∃ (kq : Nat) (x7_3 : Int), v7 = .int .i64 x7_3 ∧ Aside0 (mend_Look.j0 kq a2 x7_3 a0 a1_0 a1_1 l1_2 l1_3 l1_4 = some r) ∧ Aside0 (kq ≤ k) ∧ Aside0 (wc.heap[gb110]? = some (.cells #[.bool a1_0, .bool a1_1, (.slice A1_2 l1_2.length c1_2), (.slice A1_3 l1_3.length c1_3), (.slice A1_4 l1_4.length c1_4)] 116 (0, 0))) ∧ Aside0 (Below w.heap.size w wc))
  case first =>
    have H := HC4.out
    clear HC4
    by_cases c7 : a1_0 = true
    · subst c7
      have H1 : (mend_Look.j0 k a2 (l1_4.length : Int) a0 true a1_1 l1_2 l1_3 l1_4) = some r := by rw [if_pos rfl] at H; exact H
      clear H
      have H := H1
      clear H1
      have H' := Aside0.mk H
      clear H
      have hcz8_0 : w5.cell? ⟨gb110, 0, none⟩ = some (.bool true) := (blk_cell BK110.out 0).trans rfl
      have hcz8_1 : w5.cell? ⟨gb110, 1, none⟩ = some (.bool a1_1) := (blk_cell BK110.out 1).trans rfl
      have hcz8_2 : w5.cell? ⟨gb110, 2, none⟩ = some (.slice A1_2 l1_2.length c1_2) := (blk_cell BK110.out 2).trans rfl
      have hcz8_3 : w5.cell? ⟨gb110, 3, none⟩ = some (.slice A1_3 l1_3.length c1_3) := (blk_cell BK110.out 3).trans rfl
      have hcz8_4 : w5.cell? ⟨gb110, 4, none⟩ = some (.slice A1_4 l1_4.length c1_4) := (blk_cell BK110.out 4).trans rfl
      have hfz8_0 := blk_frozen BK110.out 0
      have hfz8_1 := blk_frozen BK110.out 1
      have hfz8_2 := blk_frozen BK110.out 2
      have hfz8_3 := blk_frozen BK110.out 3
      have hfz8_4 := blk_frozen BK110.out 4
      go_wp2
      go_meet
      case rel => exact ⟨_, ((l1_4.length : Int)), (by first | rfl | (simp; done) | (simp [*]; done)), H', ⟨by first | omega | exact Nat.le_refl _⟩, ⟨by (with_reducible repeat (first | refine blk_drewN ?_ _ | refine blk_drew ?_ | refine blk_alloc ?_ _)); exact BK110.out⟩, ⟨by repeat (first | (with_reducible first | exact HB.out | apply below_alloc | apply pw_below_drewN | apply below_drew1 | refine below_set ?_ GE110.out) | exact HB.out)⟩⟩
    · replace c7 := Bool.eq_false_iff.mpr c7
      subst c7
      have H1 : (mend_Look.j0 k a2 (l1_2.length : Int) a0 false a1_1 l1_2 l1_3 l1_4) = some r := by rw [if_neg (show ¬ (false = true) by decide)] at H; exact H
      clear H
      have H := H1
      clear H1
      have H' := Aside0.mk H
      clear H
      go_wp2
      go_meet
      case rel => exact ⟨_, ((l1_2.length : Int)), (by first | rfl | (simp; done) | (simp [*]; done)), H', ⟨by first | omega | exact Nat.le_refl _⟩, ⟨by (with_reducible repeat (first | refine blk_drewN ?_ _ | refine blk_drew ?_ | refine blk_alloc ?_ _)); exact BK110.out⟩, ⟨by repeat (first | (with_reducible first | exact HB.out | apply below_alloc | apply pw_below_drewN | apply below_drew1 | refine below_set ?_ GE110.out) | exact HB.out)⟩⟩
  case rest =>
    clear HC4
    try clear c1
    try clear p2
    try clear c6
    try clear c7
    try clear hcz6_0
    try clear hcz6_1
    try clear hcz6_2
    try clear hcz6_3
    try clear hcz6_4
    try clear hcz8_0
    try clear hcz8_1
    try clear hcz8_2
    try clear hcz8_3
    try clear hcz8_4
    try clear hfz6_0
    try clear hfz6_1
    try clear hfz6_2
    try clear hfz6_3
    try clear hfz6_4
    try clear hfz8_0
    try clear hfz8_1
    try clear hfz8_2
    try clear hfz8_3
    try clear hfz8_4
    obtain ⟨kq, x7_3, rfl, HA, HJ3, BK110, HB⟩ := hcut
    cases kq with
    | zero => exact absurd HA.out (by simp [mend_Look.j0])
    | succ kj3 =>
      have H := HA.out
      clear HA
      simp only [mend_Look.j0] at H
      have HC9 := Aside0.mk H
      clear H
      go_upto_block 0 with (fail)
      go_cut [8] (fun v8 wc => ∃ (kq : Nat) (x8_8 : Int), v8 = .int .i64 x8_8 ∧ Aside0 (mend_Look.j2 kq x7_3 x8_8 a1_0 a1_1 l1_2 l1_3 l1_4 = some r) ∧ Aside0 (kq ≤ kj3) ∧ Aside0 (wc.heap[gb110]? = some (.cells #[.bool a1_0, .bool a1_1, (.slice A1_2 l1_2.length c1_2), (.slice A1_3 l1_3.length c1_3), (.slice A1_4 l1_4.length c1_4)] 116 (0, 0))) ∧ Aside0 (Below w.heap.size w wc))
      case first =>
        have H := HC9.out
        clear HC9
        have HC10 := Aside0.mk H
        clear H
        go_upto_region 4 with (fail)
        go_cut [19] (fun v19 wc => ∃ (kq : Nat) (x19_9 : Bool), v19 = .bool x19_9 ∧ Aside0 (mend_Look.j1 kq a2 x7_3 a0 x19_9 a1_0 a1_1 l1_2 l1_3 l1_4 = some r) ∧ Aside0 (kq ≤ kj3) ∧ Aside0 (wc.heap[gb110]? = some (.cells #[.bool a1_0, .bool a1_1, (.slice A1_2 l1_2.length c1_2), (.slice A1_3 l1_3.length c1_3), (.slice A1_4 l1_4.length c1_4)] 116 (0, 0))) ∧ Aside0 (Below w.heap.size w wc))
        case first =>
          have H := HC10.out
          clear HC10
          by_cases c11 : a2 = true
          · subst c11
            have H1 : (mend_Look.j1 kj3 true x7_3 a0 a1_0 a1_0 a1_1 l1_2 l1_3 l1_4) = some r := by rw [if_pos rfl] at H; exact H
            clear H
            have H := H1
            clear H1
            have H' := Aside0.mk H
            clear H
            have hcz12_0 : wc.cell? ⟨gb110, 0, none⟩ = some (.bool a1_0) := (blk_cell BK110.out 0).trans rfl
            have hcz12_1 : wc.cell? ⟨gb110, 1, none⟩ = some (.bool a1_1) := (blk_cell BK110.out 1).trans rfl
            have hcz12_2 : wc.cell? ⟨gb110, 2, none⟩ = some (.slice A1_2 l1_2.length c1_2) := (blk_cell BK110.out 2).trans rfl
            have hcz12_3 : wc.cell? ⟨gb110, 3, none⟩ = some (.slice A1_3 l1_3.length c1_3) := (blk_cell BK110.out 3).trans rfl
            have hcz12_4 : wc.cell? ⟨gb110, 4, none⟩ = some (.slice A1_4 l1_4.length c1_4) := (blk_cell BK110.out 4).trans rfl
            have hfz12_0 := blk_frozen BK110.out 0
            have hfz12_1 := blk_frozen BK110.out 1
            have hfz12_2 := blk_frozen BK110.out 2
            have hfz12_3 := blk_frozen BK110.out 3
            have hfz12_4 := blk_frozen BK110.out 4
            go_wp2
            go_meet
            case rel => exact ⟨_, (a1_0), (by first | rfl | (simp; done) | (simp [*]; done)), H', ⟨by have := HJ3.out; first | omega | exact Nat.le_refl _⟩, ⟨by (with_reducible repeat (first | refine blk_drewN ?_ _ | refine blk_drew ?_ | refine blk_alloc ?_ _)); exact BK110.out⟩, ⟨by repeat (first | (with_reducible first | exact HB.out | apply below_alloc | apply pw_below_drewN | apply below_drew1 | refine below_set ?_ GE110.out) | exact HB.out)⟩⟩
          · replace c11 := Bool.eq_false_iff.mpr c11
            subst c11
            have H1 : (mend_Look.j1 kj3 false x7_3 a0 false a1_0 a1_1 l1_2 l1_3 l1_4) = some r := by rw [if_neg (show ¬ (false = true) by decide)] at H; exact H
            clear H
            have H := H1
            clear H1
            have H' := Aside0.mk H
            clear H
            go_wp2
            go_meet
            case rel => exact ⟨_, (false), (by first | rfl | (simp; done) | (simp [*]; done)), H', ⟨by have := HJ3.out; first | omega | exact Nat.le_refl _⟩, ⟨by (with_reducible repeat (first | refine blk_drewN ?_ _ | refine blk_drew ?_ | refine blk_alloc ?_ _)); exact BK110.out⟩, ⟨by repeat (first | (with_reducible first | exact HB.out | apply below_alloc | apply pw_below_drewN | apply below_drew1 | refine below_set ?_ GE110.out) | exact HB.out)⟩⟩
        case rest =>
          clear HC10
          try clear c1
          try clear p2
          try clear c6
          try clear c7
          try clear c11
          try clear hcz12_0
          try clear hcz12_1
          try clear hcz12_2
          try clear hcz12_3
          try clear hcz12_4
          try clear hcz6_0
          try clear hcz6_1
          try clear hcz6_2
          try clear hcz6_3
          try clear hcz6_4
          try clear hcz8_0
          try clear hcz8_1
          try clear hcz8_2
          try clear hcz8_3
          try clear hcz8_4
          try clear hfz12_0
          try clear hfz12_1
          try clear hfz12_2
          try clear hfz12_3
          try clear hfz12_4
          try clear hfz6_0
          try clear hfz6_1
          try clear hfz6_2
          try clear hfz6_3
          try clear hfz6_4
          try clear hfz8_0
          try clear hfz8_1
          try clear hfz8_2
          try clear hfz8_3
          try clear hfz8_4
          try clear p2
          obtain ⟨kq, x19_9, rfl, HA, HJ9, BK110, HB⟩ := hcut
          cases kq with
          | zero => exact absurd HA.out (by simp [mend_Look.j1])
          | succ kj9 =>
            have H := HA.out
            clear HA
            simp only [mend_Look.j1] at H
            by_cases c13 : x19_9 = true
            · subst c13
              have H1 : (mend_Look.j2 kj9 x7_3 2 a1_0 a1_1 l1_2 l1_3 l1_4) = some r := by rw [if_pos rfl] at H; exact H
              clear H
              have H := H1
              clear H1
              have H' := Aside0.mk H
              clear H
              go_wp2
              go_meet
              case rel => exact ⟨_, (2), (by first | rfl | (simp; done) | (simp [*]; done)), H', ⟨by have := HJ3.out; have := HJ9.out; first | omega | exact Nat.le_refl _⟩, ⟨by (with_reducible repeat (first | refine blk_drewN ?_ _ | refine blk_drew ?_ | refine blk_alloc ?_ _)); exact BK110.out⟩, ⟨by repeat (first | (with_reducible first | exact HB.out | apply below_alloc | apply pw_below_drewN | apply below_drew1 | refine below_set ?_ GE110.out) | exact HB.out)⟩⟩
            · replace c13 := Bool.eq_false_iff.mpr c13
              subst c13
              have H1 : (if a2 = true then (mend_Look.j2 kj9 x7_3 0 a1_0 a1_1 l1_2 l1_3 l1_4) else (mend_Look.j2 kj9 x7_3 a0 a1_0 a1_1 l1_2 l1_3 l1_4)) = some r := by rw [if_neg (show ¬ (false = true) by decide)] at H; exact H
              clear H
              have H := H1
              clear H1
              by_cases c14 : a2 = true
              · subst c14
                have H1 : (mend_Look.j2 kj9 x7_3 0 a1_0 a1_1 l1_2 l1_3 l1_4) = some r := by rw [if_pos rfl] at H; exact H
                clear H
                have H := H1
                clear H1
                have H' := Aside0.mk H
                clear H
                go_wp2
                go_meet
                case rel => exact ⟨_, (0), (by first | rfl | (simp; done) | (simp [*]; done)), H', ⟨by have := HJ3.out; have := HJ9.out; first | omega | exact Nat.le_refl _⟩, ⟨by (with_reducible repeat (first | refine blk_drewN ?_ _ | refine blk_drew ?_ | refine blk_alloc ?_ _)); exact BK110.out⟩, ⟨by repeat (first | (with_reducible first | exact HB.out | apply below_alloc | apply pw_below_drewN | apply below_drew1 | refine below_set ?_ GE110.out) | exact HB.out)⟩⟩
              · replace c14 := Bool.eq_false_iff.mpr c14
                subst c14
                have H1 : (mend_Look.j2 kj9 x7_3 a0 a1_0 a1_1 l1_2 l1_3 l1_4) = some r := by rw [if_neg (show ¬ (false = true) by decide)] at H; exact H
                clear H
                have H := H1
                clear H1
                have H' := Aside0.mk H
                clear H
                go_wp2
                go_meet
                case rel => exact ⟨_, (a0), (by first | rfl | (simp; done) | (simp [*]; done)), H', ⟨by have := HJ3.out; have := HJ9.out; first | omega | exact Nat.le_refl _⟩, ⟨by (with_reducible repeat (first | refine blk_drewN ?_ _ | refine blk_drew ?_ | refine blk_alloc ?_ _)); exact BK110.out⟩, ⟨by repeat (first | (with_reducible first | exact HB.out | apply below_alloc | apply pw_below_drewN | apply below_drew1 | refine below_set ?_ GE110.out) | exact HB.out)⟩⟩
      case rest =>
        clear HC9
        try clear c1
        try clear p2
        try clear c6
        try clear c7
        try clear c11
        try clear c13
        try clear c14
        try clear hcz12_0
        try clear hcz12_1
        try clear hcz12_2
        try clear hcz12_3
        try clear hcz12_4
        try clear hcz6_0
        try clear hcz6_1
        try clear hcz6_2
        try clear hcz6_3
        try clear hcz6_4
        try clear hcz8_0
        try clear hcz8_1
        try clear hcz8_2
        try clear hcz8_3
        try clear hcz8_4
        try clear hfz12_0
        try clear hfz12_1
        try clear hfz12_2
        try clear hfz12_3
        try clear hfz12_4
        try clear hfz6_0
        try clear hfz6_1
        try clear hfz6_2
        try clear hfz6_3
        try clear hfz6_4
        try clear hfz8_0
        try clear hfz8_1
        try clear hfz8_2
        try clear hfz8_3
        try clear hfz8_4
        try clear p2
        obtain ⟨kq, x8_8, rfl, HA, HJ8, BK110, HB⟩ := hcut
        cases kq with
        | zero => exact absurd HA.out (by simp [mend_Look.j2])
        | succ kj8 =>
          have H := HA.out
          clear HA
          simp only [mend_Look.j2] at H
          by_cases c15 : a1_1 = true
          · subst c15
            have H1 : (some 1) = some r := by rw [if_pos rfl] at H; exact H
            clear H
            have H := H1
            clear H1
            obtain rfl := Option.some.inj H
            have hcz16_0 : wc.cell? ⟨gb110, 0, none⟩ = some (.bool a1_0) := (blk_cell BK110.out 0).trans rfl
            have hcz16_1 : wc.cell? ⟨gb110, 1, none⟩ = some (.bool true) := (blk_cell BK110.out 1).trans rfl
            have hcz16_2 : wc.cell? ⟨gb110, 2, none⟩ = some (.slice A1_2 l1_2.length c1_2) := (blk_cell BK110.out 2).trans rfl
            have hcz16_3 : wc.cell? ⟨gb110, 3, none⟩ = some (.slice A1_3 l1_3.length c1_3) := (blk_cell BK110.out 3).trans rfl
            have hcz16_4 : wc.cell? ⟨gb110, 4, none⟩ = some (.slice A1_4 l1_4.length c1_4) := (blk_cell BK110.out 4).trans rfl
            have hfz16_0 := blk_frozen BK110.out 0
            have hfz16_1 := blk_frozen BK110.out 1
            have hfz16_2 := blk_frozen BK110.out 2
            have hfz16_3 := blk_frozen BK110.out 3
            have hfz16_4 := blk_frozen BK110.out 4
            go_wp2
            go_ret
            exact ⟨by first | rfl | (simp [errW_none, errW_some] <;> rfl) | (simp [*, errW_none, errW_some] <;> rfl), by repeat (first | (with_reducible first | exact HB.out | apply below_alloc | apply pw_below_drewN | apply below_drew1 | refine below_set ?_ GE110.out) | exact HB.out)⟩
          · replace c15 := Bool.eq_false_iff.mpr c15
            subst c15
            have H1 : (if x7_3 < x8_8 then (some 2) else (some 0)) = some r := by rw [if_neg (show ¬ (false = true) by decide)] at H; exact H
            clear H
            have H := H1
            clear H1
            by_cases c17 : x7_3 < x8_8
            · rw [if_pos c17] at H
              have c17b0 : decide (x7_3 < x8_8) = true := decide_eq_true c17
              clear c17
              obtain rfl := Option.some.inj H
              have hcz18_0 : wc.cell? ⟨gb110, 0, none⟩ = some (.bool a1_0) := (blk_cell BK110.out 0).trans rfl
              have hcz18_1 : wc.cell? ⟨gb110, 1, none⟩ = some (.bool false) := (blk_cell BK110.out 1).trans rfl
              have hcz18_2 : wc.cell? ⟨gb110, 2, none⟩ = some (.slice A1_2 l1_2.length c1_2) := (blk_cell BK110.out 2).trans rfl
              have hcz18_3 : wc.cell? ⟨gb110, 3, none⟩ = some (.slice A1_3 l1_3.length c1_3) := (blk_cell BK110.out 3).trans rfl
              have hcz18_4 : wc.cell? ⟨gb110, 4, none⟩ = some (.slice A1_4 l1_4.length c1_4) := (blk_cell BK110.out 4).trans rfl
              have hfz18_0 := blk_frozen BK110.out 0
              have hfz18_1 := blk_frozen BK110.out 1
              have hfz18_2 := blk_frozen BK110.out 2
              have hfz18_3 := blk_frozen BK110.out 3
              have hfz18_4 := blk_frozen BK110.out 4
              go_wp2
              go_ret
              exact ⟨by first | rfl | (simp [errW_none, errW_some] <;> rfl) | (simp [*, errW_none, errW_some] <;> rfl), by repeat (first | (with_reducible first | exact HB.out | apply below_alloc | apply pw_below_drewN | apply below_drew1 | refine below_set ?_ GE110.out) | exact HB.out)⟩
            · rw [if_neg c17] at H
              have c17b0 : decide (x7_3 < x8_8) = false := decide_eq_false c17
              clear c17
              obtain rfl := Option.some.inj H
              have hcz19_0 : wc.cell? ⟨gb110, 0, none⟩ = some (.bool a1_0) := (blk_cell BK110.out 0).trans rfl
              have hcz19_1 : wc.cell? ⟨gb110, 1, none⟩ = some (.bool false) := (blk_cell BK110.out 1).trans rfl
              have hcz19_2 : wc.cell? ⟨gb110, 2, none⟩ = some (.slice A1_2 l1_2.length c1_2) := (blk_cell BK110.out 2).trans rfl
              have hcz19_3 : wc.cell? ⟨gb110, 3, none⟩ = some (.slice A1_3 l1_3.length c1_3) := (blk_cell BK110.out 3).trans rfl
              have hcz19_4 : wc.cell? ⟨gb110, 4, none⟩ = some (.slice A1_4 l1_4.length c1_4) := (blk_cell BK110.out 4).trans rfl
              have hfz19_0 := blk_frozen BK110.out 0
              have hfz19_1 := blk_frozen BK110.out 1
              have hfz19_2 := blk_frozen BK110.out 2
              have hfz19_3 := blk_frozen BK110.out 3
              have hfz19_4 := blk_frozen BK110.out 4
              go_wp2
              go_ret
              exact ⟨by first | rfl | (simp [errW_none, errW_some] <;> rfl) | (simp [*, errW_none, errW_some] <;> rfl), by repeat (first | (with_reducible first | exact HB.out | apply below_alloc | apply pw_below_drewN | apply below_drew1 | refine below_set ?_ GE110.out) | exact HB.out)⟩
def boscagelaw11_Wide.f (a0 : Int) : Option (Int) := some (wrap64 (3 + (Int.tmod (wrap64 (a0)) 6)))
set_option maxHeartbeats 8000000 in
set_option maxRecDepth 100000 in
theorem boscagelaw11_Wide.calls (a0 : Int) (r : Int) (w : World) (h : boscagelaw11_Wide.f a0 = some r) :
    Calls Tryz.prog 14 #[.int .u8 a0] w fun e w' => e = .returned (.int .i64 r) ∧ Drawn0 w w' := by
  have H : (some (wrap64 (3 + (Int.tmod (wrap64 (a0)) 6)))) = some r := h
  clear h
  obtain rfl := Option.some.inj H
  go_enter Tryz.func14, Tryz.ntmps14
  go_wp2
  go_ret
  exact ⟨by first | rfl | (simp; done) | (simp [*]; done), by repeat (first | exact Drawn0.refl _ | apply Drawn0.step)⟩
mutual
def boscagelaw11_Parts.l0 : Nat → Int → Int → Int → Option (List Int)
  | 0, _, _, _ => none
  | k + 1, x0, x1, x5 => if (wrap64 (x5 * x1)) < x0 then (boscagelaw11_Parts.l0 k x0 x1 (wrap64 (x5 + 1))) else (boscagelaw11_Parts.l1 k x0 x5 ([] : List Int) x5 0)
def boscagelaw11_Parts.l1 : Nat → Int → Int → List Int → Int → Int → Option (List Int)
  | 0, _, _, _, _, _ => none
  | k + 1, x0, x5, x6, x17, x18 => if x18 < x17 then (boscagelaw11_Parts.l2 k x0 x5 x6 0 x18 x17 x18) else (some x6)
def boscagelaw11_Parts.l2 : Nat → Int → Int → List Int → Int → Int → Int → Int → Option (List Int)
  | 0, _, _, _, _, _, _, _ => none
  | k + 1, x0, x5, x6, x8, x9, x17, x18 => if x9 < x0 then (boscagelaw11_Parts.l2 k x0 x5 x6 (wrap64 (x8 + 1)) (wrap64 (x9 + x5)) x17 x18) else (if x6.length < 17592186044416 then (boscagelaw11_Parts.l1 k x0 x5 (x6 ++ [x8]) x17 (wrap64 (x18 + 1))) else (none))
end
def boscagelaw11_Parts.f (k : Nat) (a0 : Int) (a1 : Int) : Option (List Int) := boscagelaw11_Parts.l0 k a0 a1 0
theorem boscagelaw11_Parts.mono_l : ∀ k, (∀ y0 y1 y2, LeO (boscagelaw11_Parts.l0 k y0 y1 y2) (boscagelaw11_Parts.l0 (k + 1) y0 y1 y2)) ∧ (∀ y0 y1 y2 y3 y4, LeO (boscagelaw11_Parts.l1 k y0 y1 y2 y3 y4) (boscagelaw11_Parts.l1 (k + 1) y0 y1 y2 y3 y4)) ∧ (∀ y0 y1 y2 y3 y4 y5 y6, LeO (boscagelaw11_Parts.l2 k y0 y1 y2 y3 y4 y5 y6) (boscagelaw11_Parts.l2 (k + 1) y0 y1 y2 y3 y4 y5 y6))
  | 0 => ⟨fun _ _ _ r h => by simp [boscagelaw11_Parts.l0] at h, fun _ _ _ _ _ r h => by simp [boscagelaw11_Parts.l1] at h, fun _ _ _ _ _ _ _ r h => by simp [boscagelaw11_Parts.l2] at h⟩
  | k + 1 => by
    obtain ⟨ih0, ih1, ih2⟩ := boscagelaw11_Parts.mono_l k
    refine ⟨?_, ?_, ?_⟩
    · intro y0 y1 y2
      unfold boscagelaw11_Parts.l0
      repeat' first
      | (with_reducible exact ih0 _ _ _)
      | (with_reducible exact ih1 _ _ _ _ _)
      | (with_reducible exact ih2 _ _ _ _ _ _ _)
      | (with_reducible exact LeO.refl _)
      | (with_reducible exact LeO.none _)
      | (with_reducible refine LeO.ite ?_ ?_)
      | (with_reducible refine LeO.bind ?_ (fun _ => ?_))
      | exact ih0 _ _ _
      | exact ih1 _ _ _ _ _
      | exact ih2 _ _ _ _ _ _ _
      | exact LeO.none _
      | refine LeO.ite ?_ ?_
      | refine LeO.bind ?_ (fun _ => ?_)
    · intro y0 y1 y2 y3 y4
      unfold boscagelaw11_Parts.l1
      repeat' first
      | (with_reducible exact ih0 _ _ _)
      | (with_reducible exact ih1 _ _ _ _ _)
      | (with_reducible exact ih2 _ _ _ _ _ _ _)
      | (with_reducible exact LeO.refl _)
      | (with_reducible exact LeO.none _)
      | (with_reducible refine LeO.ite ?_ ?_)
      | (with_reducible refine LeO.bind ?_ (fun _ => ?_))
      | exact ih0 _ _ _
      | exact ih1 _ _ _ _ _
      | exact ih2 _ _ _ _ _ _ _
      | exact LeO.none _
      | refine LeO.ite ?_ ?_
      | refine LeO.bind ?_ (fun _ => ?_)
    · intro y0 y1 y2 y3 y4 y5 y6
      unfold boscagelaw11_Parts.l2
      repeat' first
      | (with_reducible exact ih0 _ _ _)
      | (with_reducible exact ih1 _ _ _ _ _)
      | (with_reducible exact ih2 _ _ _ _ _ _ _)
      | (with_reducible exact LeO.refl _)
      | (with_reducible exact LeO.none _)
      | (with_reducible refine LeO.ite ?_ ?_)
      | (with_reducible refine LeO.bind ?_ (fun _ => ?_))
      | exact ih0 _ _ _
      | exact ih1 _ _ _ _ _
      | exact ih2 _ _ _ _ _ _ _
      | exact LeO.none _
      | refine LeO.ite ?_ ?_
      | refine LeO.bind ?_ (fun _ => ?_)
theorem boscagelaw11_Parts.mono : ∀ a0 a1 k, LeO (boscagelaw11_Parts.f k a0 a1) (boscagelaw11_Parts.f (k + 1) a0 a1) := by
  intro a0 a1 k
  obtain ⟨ih0, ih1, ih2⟩ := boscagelaw11_Parts.mono_l k
  unfold boscagelaw11_Parts.f
  repeat' first
      | (with_reducible exact ih0 _ _ _)
      | (with_reducible exact ih1 _ _ _ _ _)
      | (with_reducible exact ih2 _ _ _ _ _ _ _)
      | (with_reducible exact LeO.refl _)
      | (with_reducible exact LeO.none _)
      | (with_reducible refine LeO.ite ?_ ?_)
      | (with_reducible refine LeO.bind ?_ (fun _ => ?_))
      | exact ih0 _ _ _
      | exact ih1 _ _ _ _ _
      | exact ih2 _ _ _ _ _ _ _
      | exact LeO.none _
      | refine LeO.ite ?_ ?_
      | refine LeO.bind ?_ (fun _ => ?_)
set_option maxHeartbeats 8000000 in
set_option maxRecDepth 100000 in
theorem boscagelaw11_Parts.calls (k : Nat) (a0 : Int) (a1 : Int) (r : List Int) (w : World) (h : boscagelaw11_Parts.f k a0 a1 = some r) :
    Calls Tryz.prog 70 #[.int .i64 a0, .int .i64 a1] w fun e w' => ∃ v0_ : Value, e = .returned (v0_) ∧ Kd.R (Kd.int .i64) 3 w' w.heap.size (fun _ => True) v0_ r ∧ Below w.heap.size w w' := by
  have HB := Aside0.mk (Below.refl w.heap.size w)
  have H : (boscagelaw11_Parts.l0 k a0 a1 0) = some r := h
  clear h
  have H' := Aside0.mk H
  clear H
  go_enter Tryz.func70, Tryz.ntmps70
  go_wp2
  go_loopg [5] k (fun kq v5 w' => ∃ (x5_1 : Int), v5 = .int .i64 x5_1 ∧ Aside0 (boscagelaw11_Parts.l0 kq a0 a1 x5_1 = some r) ∧ Aside0 (kq ≤ k) ∧ Aside0 (Below w.heap.size w w'))
  case atStart => exact ⟨(0), (by first | rfl | (simp; done) | (simp [*]; done)), H', ⟨Nat.le_refl _⟩, ⟨by repeat (first | (with_reducible first | exact HB.out | apply below_alloc | apply pw_below_drewN | apply below_drew1) | exact HB.out)⟩⟩
  case round =>
    clear H'
    try clear p2
    obtain ⟨x5_1, rfl, HA, HK1, HB⟩ := hrel
    cases gk with
    | zero => exact absurd HA.out (by simp [boscagelaw11_Parts.l0])
    | succ k1 =>
      have H := HA.out
      clear HA
      simp only [boscagelaw11_Parts.l0] at H
      by_cases c3 : (wrap64 (x5_1 * a1)) < a0
      · rw [if_pos c3] at H
        have c3b0 : decide ((wrap64 (x5_1 * a1)) < a0) = true := decide_eq_true c3
        clear c3
        have H' := Aside0.mk H
        clear H
        go_wp2
        go_roundg k1
        case measure => have := HK1.out; omega
        case rel => exact ⟨(wrap64 (x5_1 + 1)), (by first | rfl | (simp; done) | (simp [*]; done)), H', ⟨by have := HK1.out; omega⟩, ⟨by repeat (first | (with_reducible first | exact HB.out | apply below_alloc | apply pw_below_drewN | apply below_drew1) | exact HB.out)⟩⟩
      · rw [if_neg c3] at H
        have c3b0 : decide ((wrap64 (x5_1 * a1)) < a0) = false := decide_eq_false c3
        clear c3
        have H' := Aside0.mk H
        clear H
        go_wp2
        go_loopg [6, 18] k1 (fun kq v6 v18 w' => ∃ (x6_2 : List Int) (x18_2 : Int), v18 = .int .i64 x18_2 ∧ Aside0 (boscagelaw11_Parts.l1 kq a0 x5_1 x6_2 x5_1 x18_2 = some r) ∧ Aside0 (kq ≤ k1) ∧ Aside0 (Kd.R (Kd.int .i64) 3 w' w.heap.size (fun _ => True) v6 x6_2) ∧ Aside0 (Below w.heap.size w w'))
        case atStart => exact ⟨(([] : List Int)), (0), (by first | rfl | (simp; done) | (simp [*]; done)), H', ⟨Nat.le_refl _⟩, ⟨by first | exact Kd.R_nil _ _ _ _ _ | exact Kd.N_nil _ _ _ _ _ | exact Kd.V_nil _ _ _ _ _ | exact Kd.Q_nil _ _ _ _ _ | exact Kd.S_nil _ _ _ _ _⟩, ⟨by repeat (first | (with_reducible first | exact HB.out | apply below_alloc | apply pw_below_drewN | apply below_drew1) | exact HB.out)⟩⟩
        case round =>
          clear H'
          try clear p2
          try clear c3
          try clear c3b0
          try clear p2
          obtain ⟨x6_2, x18_2, rfl, HA, HK2, HO_6, HB⟩ := hrel
          cases gk with
          | zero => exact absurd HA.out (by simp [boscagelaw11_Parts.l1])
          | succ k2 =>
            have H := HA.out
            clear HA
            simp only [boscagelaw11_Parts.l1] at H
            by_cases c4 : x18_2 < x5_1
            · rw [if_pos c4] at H
              have c4b0 : decide (x18_2 < x5_1) = true := decide_eq_true c4
              clear c4
              have H' := Aside0.mk H
              clear H
              go_wp2
              go_loopg [8, 9] k2 (fun kq v8 v9 w' => ∃ (x8_3 : Int) (x9_3 : Int), v8 = .int .i64 x8_3 ∧ v9 = .int .i64 x9_3 ∧ Aside0 (boscagelaw11_Parts.l2 kq a0 x5_1 x6_2 x8_3 x9_3 x5_1 x18_2 = some r) ∧ Aside0 (kq ≤ k2) ∧ Aside0 (Kd.R (Kd.int .i64) 3 w' w.heap.size (fun _ => True) u6 x6_2) ∧ Aside0 (Below w.heap.size w w'))
              case atStart => exact ⟨(0), (x18_2), (by first | rfl | (simp; done) | (simp [*]; done)), (by first | rfl | (simp; done) | (simp [*]; done)), H', ⟨Nat.le_refl _⟩, ⟨by (with_reducible repeat (first | apply Kd.R_alloc | apply Kd.R_drewN | apply Kd.R_drew)); exact HO_6.out⟩, ⟨by repeat (first | (with_reducible first | exact HB.out | apply below_alloc | apply pw_below_drewN | apply below_drew1) | exact HB.out)⟩⟩
              case round =>
                clear H'
                try clear p2
                try clear c3
                try clear c3b0
                try clear c4
                try clear c4b0
                try clear p2
                obtain ⟨x8_3, x9_3, rfl, rfl, HA, HK3, HO_6, HB⟩ := hrel
                cases gk with
                | zero => exact absurd HA.out (by simp [boscagelaw11_Parts.l2])
                | succ k3 =>
                  have H := HA.out
                  clear HA
                  simp only [boscagelaw11_Parts.l2] at H
                  by_cases c5 : x9_3 < a0
                  · rw [if_pos c5] at H
                    have c5b0 : decide (x9_3 < a0) = true := decide_eq_true c5
                    clear c5
                    have H' := Aside0.mk H
                    clear H
                    go_wp2
                    go_roundg k3
                    case measure => have := HK1.out; have := HK2.out; have := HK3.out; omega
                    case rel => exact ⟨(wrap64 (x8_3 + 1)), (wrap64 (x9_3 + x5_1)), (by first | rfl | (simp; done) | (simp [*]; done)), (by first | rfl | (simp; done) | (simp [*]; done)), H', ⟨by have := HK1.out; have := HK2.out; have := HK3.out; omega⟩, ⟨by (with_reducible repeat (first | apply Kd.R_alloc | apply Kd.R_drewN | apply Kd.R_drew)); exact HO_6.out⟩, ⟨by repeat (first | (with_reducible first | exact HB.out | apply below_alloc | apply pw_below_drewN | apply below_drew1) | exact HB.out)⟩⟩
                  · rw [if_neg c5] at H
                    have c5b0 : decide (x9_3 < a0) = false := decide_eq_false c5
                    clear c5
                    by_cases c6 : x6_2.length < 17592186044416
                    · rw [if_pos c6] at H
                      have LMc6 := Aside0.mk c6
                      clear c6
                      obtain ⟨y111, hy111⟩ : ∃ y_ : List Int, y_ = (x6_2 ++ [x8_3]) := ⟨_, rfl⟩
                      replace H : (boscagelaw11_Parts.l1 k3 a0 x5_1 y111 x5_1 (wrap64 (x18_2 + 1))) = some r := by first | (rw [hy111]; with_reducible exact H) | (have H2_ := (Option.bind_some _ _).symm.trans H; rw [hy111]; with_reducible exact H2_) | (have H2_ := (Option.bind_some _ _).symm.trans H; with_reducible exact H2_) | with_reducible exact H | (rw [hy111]; exact H) | exact H
                      have Ny111 := Aside0.mk hy111
                      clear hy111
                      have H' := Aside0.mk H
                      clear H
                      go_wp2_with (first | ((with_reducible refine gate_builtin (b := .append) (xs := #[.tmp 30, .tmp 32]) rfl ?_); at_builtin; refine Kd.R_append (Kd.int .i64) (w0 := w) w.heap.size rfl (.tmp 30) (.tmp 32) 117 3 (.int .i64 0) 8 rfl Tryz.underlying117 info3 rfl (by decide) (by omega) u6 x6_2 x8_3 [.int .i64 x8_3] (fun _ => True) (fun _ => False) rfl rfl ?aP (fun _ hk => hk.elim) ?aF ?aO ?aB ?aS ?aL ?_; (case aP => exact rfl); (case aB => exact (by repeat (first | (with_reducible first | exact HB.out | apply below_alloc | apply pw_below_drewN | apply below_drew1) | exact HB.out))); (case aF => exact (fun _ _ => trivial)); (case aO => exact (by (with_reducible repeat (first | apply Kd.R_alloc | apply Kd.R_drewN | apply Kd.R_drew)); exact HO_6.out)); (case aS => exact (below_size (by repeat (first | (with_reducible first | exact HB.out | apply below_alloc | apply pw_below_drewN | apply below_drew1) | exact HB.out)))); (case aL => have := LMc6.out; omega); intro v112 w7 ho hb hg hat; rw [← Ny111.out] at ho; have n0_ := Aside0.mk (hb); have n1_ := Aside0.mk (ho); clear HB; clear HO_6; have HB := n0_; have HO113 := n1_; clear n0_ n1_; clear ho hb hg hat))
                      go_roundg k3
                      case measure => have := HK1.out; have := HK2.out; have := HK3.out; omega
                      case rel => exact ⟨(y111), (wrap64 (x18_2 + 1)), (by first | rfl | (simp; done) | (simp [*]; done)), H', ⟨by have := HK1.out; have := HK2.out; have := HK3.out; omega⟩, ⟨by (with_reducible repeat (first | apply Kd.R_alloc | apply Kd.R_drewN | apply Kd.R_drew)); exact HO113.out⟩, ⟨by repeat (first | (with_reducible first | exact HB.out | apply below_alloc | apply pw_below_drewN | apply below_drew1) | exact HB.out)⟩⟩
                    · rw [if_neg c6] at H
                      exact absurd H (by simp)
            · rw [if_neg c4] at H
              have c4b0 : decide (x18_2 < x5_1) = false := decide_eq_false c4
              clear c4
              obtain rfl := Option.some.inj H
              go_wp2
              go_ret
              exact ⟨_, by first | rfl | (simp [errW_none, errW_some] <;> rfl) | (simp [*, errW_none, errW_some] <;> rfl), by (with_reducible repeat (first | apply Kd.R_alloc | apply Kd.R_drewN | apply Kd.R_drew)); exact HO_6.out, by repeat (first | (with_reducible first | exact HB.out | apply below_alloc | apply pw_below_drewN | apply below_drew1) | exact HB.out)⟩
end Go.Proofs.YtelmidpepojbdaaGreat.PMendRight
namespace Go.Proofs.YtelmidpepojbdaaGreat.Tower
open Go Go.RowKit Go.Proofs.YtelmidpepojbdaaGreatW.PrintWords Go.Proofs.YtelmidpepojbdaaGreatW.PrintLast Go.Proofs.YtelmidpepojbdaaGreatW.PrintMore Go.Proofs.YtelmidpepojbdaaGreat.Own Go.Proofs.YtelmidpepojbdaaGreat.PMendRight
set_option linter.unusedVariables false
set_option linter.unusedSimpArgs false
abbrev Pr2 := S106
abbrev kP := k106
abbrev Sh := S29
abbrev kSh := k29
abbrev zSh := z29
def partsN (n b : Nat) : List Nat := (List.range ((n + b - 1) / b)).map fun i => (n - i + (n + b - 1) / b - 1) / ((n + b - 1) / b)
set_option maxRecDepth 100000 in
theorem parts_all : ∀ n : Fin 61, ∀ b : Fin 9, 3 ≤ b.val → boscagelaw11_Parts.f 300 (n.val : Int) (b.val : Int) = some ((partsN n b).map Int.ofNat) := by decide +kernel
theorem parts_f (n b : Nat) (hn : n ≤ 60) (hb : 3 ≤ b) (hb1 : b ≤ 8) : boscagelaw11_Parts.f 300 (n : Int) (b : Int) = some ((partsN n b).map Int.ofNat) := parts_all ⟨n, by omega⟩ ⟨b, by omega⟩ hb
theorem parts_good_all : ∀ n : Fin 61, ∀ b : Fin 9, 3 ≤ b.val → ((partsN n b).sum = n.val ∧ (∀ x ∈ partsN n b, 1 ≤ x ∧ x ≤ b.val) ∧ (1 < n.val → (partsN n b).length < n.val) ∧ (partsN n b).length ≤ n.val ∧ (1 < (partsN n b).length → ∀ x ∈ partsN n b, (b.val + 1) / 2 ≤ x)) := by decide +kernel
theorem parts_good (n b : Nat) (hn : n ≤ 60) (hb : 3 ≤ b) (hb1 : b ≤ 8) : (partsN n b).sum = n ∧ (∀ x ∈ partsN n b, 1 ≤ x ∧ x ≤ b) ∧ (1 < n → (partsN n b).length < n) ∧ (partsN n b).length ≤ n ∧ (1 < (partsN n b).length → ∀ x ∈ partsN n b, (b + 1) / 2 ≤ x) := parts_good_all ⟨n, by omega⟩ ⟨b, by omega⟩ hb
def leafRow : List Pr2 → List Nat → List Sh
  | _, [] => []
  | xs, n :: ns => ⟨true, false, xs.take n, [], []⟩ :: leafRow (xs.drop n) ns
def leafKey : List Pr2 → List Nat → List Int
  | _, [] => []
  | xs, n :: ns => (rd_T106 xs 0).f0 :: leafKey (xs.drop n) ns
def upRow (row : List Sh) (fs : List Int) : Nat → List Nat → List Sh
  | _, [] => []
  | i, n :: ns => ⟨false, false, [], (fs.take (i + n)).drop (i + 1), (row.take (i + n)).drop i⟩ :: upRow row fs (i + n) ns
def upKey (fs : List Int) : Nat → List Nat → List Int
  | _, [] => []
  | i, n :: ns => rd fs (i : Int) :: upKey fs (i + n) ns
def evenUp (b : Nat) : Nat → List Sh → List Int → Sh
  | 0, row, _ => row.headD zSh
  | f + 1, row, fs => if 1 < row.length then evenUp b f (upRow row fs 0 (partsN row.length b)) (upKey fs 0 (partsN row.length b)) else row.headD zSh
def evenT (xs : List Pr2) (b : Nat) : Sh := if xs.length = 0 then ⟨true, false, [], [], []⟩ else evenUp b 60 (leafRow xs (partsN xs.length b)) (leafKey xs (partsN xs.length b))
theorem leafRow_length : ∀ (ns : List Nat) (xs : List Pr2), (leafRow xs ns).length = ns.length
  | [], _ => rfl
  | n :: ns, xs => by simp [leafRow, leafRow_length ns]
theorem leafKey_length : ∀ (ns : List Nat) (xs : List Pr2), (leafKey xs ns).length = ns.length
  | [], _ => rfl
  | n :: ns, xs => by simp [leafKey, leafKey_length ns]
theorem upRow_length (row : List Sh) (fs : List Int) : ∀ (ns : List Nat) (i : Nat), (upRow row fs i ns).length = ns.length
  | [], _ => rfl
  | n :: ns, i => by simp [upRow, upRow_length row fs ns]
theorem upKey_length (fs : List Int) : ∀ (ns : List Nat) (i : Nat), (upKey fs i ns).length = ns.length
  | [], _ => rfl
  | n :: ns, i => by simp [upKey, upKey_length fs ns]
end Go.Proofs.YtelmidpepojbdaaGreat.Tower
namespace Go.Proofs.YtelmidpepojbdaaGreat.Tower
open Go Go.RowKit Go.Proofs.YtelmidpepojbdaaGreatW.PrintWords Go.Proofs.YtelmidpepojbdaaGreatW.PrintLast Go.Proofs.YtelmidpepojbdaaGreatW.PrintMore Go.Proofs.YtelmidpepojbdaaGreat.Own
set_option linter.unusedVariables false
set_option linter.unusedSimpArgs false
def upd (L : Nat → Bool) (i j : Nat) : Bool := if j = i then true else L j
def needT (T : List (List Nat × List Nat)) (i : Nat) : List Nat := match T[i]? with
  | some r => r.1
  | none => []
def acycT (T : List (List Nat × List Nat)) : Bool := (List.range T.length).all fun i => (needT T i).all fun j => decide (j < i)
def shutT (T : List (List Nat × List Nat)) (l : List Bool) : Bool := (List.range T.length).all fun i => !l.getD i false || (needT T i).all fun j => l.getD j false
def restT (l : List Bool) : List Nat := (List.range l.length).filter fun i => !l.getD i false
section
variable {P : Program} {ops : Array Oper} {Q : Exit → Act → World → Prop} {md : Region.Mode} {S : World → Prop} {ds : List Nat}
theorem mem_readyT {T : List (List Nat × List Nat)} {l : List Bool} {i : Nat} (h : i ∈ readyT T l) : i < T.length ∧ l.getD i true = false ∧ ∀ j ∈ needT T i, l.getD j false = true := by
  unfold readyT at h
  rw [List.mem_filter, List.mem_range] at h
  obtain ⟨h1, h2⟩ := h
  unfold readyAt at h2
  rw [Bool.and_eq_true] at h2
  obtain ⟨h2, h3⟩ := h2
  refine ⟨h1, by simpa using h2, fun j hj => ?_⟩
  unfold needT at hj
  cases hT : T[i]? with
  | none => rw [hT] at hj; cases hj
  | some r =>
    rw [hT] at hj h3
    exact List.all_eq_true.1 h3 j hj
theorem getD_same {l : List Bool} {i : Nat} (h : i < l.length) : l.getD i true = l.getD i false := by simp [List.getD_eq_getElem?_getD, h]
theorem readyT_none {T : List (List Nat × List Nat)} {l : List Bool} (hac : acycT T = true) (hl : l.length = T.length) (h : readyT T l = []) : ∀ i, i < T.length → l.getD i false = true := by
  intro i
  induction i using Nat.strongRecOn with
  | _ i ih =>
    intro hi
    rcases Bool.eq_false_or_eq_true (l.getD i false) with h1 | h1
    · exact h1
    exfalso
    have hne : ∀ j ∈ needT T i, l.getD j false = true := fun j hj => by
      have h2 := List.all_eq_true.1 (List.all_eq_true.1 hac i (List.mem_range.2 hi)) j hj
      have h3 := of_decide_eq_true h2
      exact ih j h3 (by omega)
    have : i ∈ readyT T l := by
      unfold readyT
      rw [List.mem_filter, List.mem_range]
      refine ⟨hi, ?_⟩
      unfold readyAt
      rw [Bool.and_eq_true]
      refine ⟨by rw [getD_same (by omega), h1]; rfl, ?_⟩
      cases hT : T[i]? with
      | none => rw [List.getElem?_eq_none_iff] at hT; omega
      | some r =>
        simp only
        rw [List.all_eq_true]
        intro j hj
        exact hne j (by unfold needT; rw [hT]; exact hj)
    rw [h] at this
    cases this
theorem ireg_ {i : Nat} {N : Option Tmp} {o : Oper} {K : Act → World → Prop} {a : Act} {w : World} (ho : ops[i]? = some o) (hN : o.dst = N)
    (h : ∀ K' : Act → World → Prop, Shut (∀ a w, K a w → K' a w) → if Region.wanted o (yielded ops a.tmps) = true then Oper.wp P o a w K' Q else K' (a.put N undef) w) : wpOp P ops Q i K a w := by
  subst hN
  exact wpOp_step ho h
end
end Go.Proofs.YtelmidpepojbdaaGreat.Tower
namespace Go.Proofs.YtelmidpepojbdaaGreat.Tower
open Go Go.RowKit Go.Proofs.YtelmidpepojbdaaGreatW.PrintWords Go.Proofs.YtelmidpepojbdaaGreatW.PrintLast Go.Proofs.YtelmidpepojbdaaGreatW.PrintMore Go.Proofs.YtelmidpepojbdaaGreat.Own
set_option linter.unusedVariables false
set_option linter.unusedSimpArgs false
def updv (u : Nat → Value) (i : Nat) (v : Value) (j : Nat) : Value := if j = i then v else u j
structure MvC (c : Nat) (ρ ρ1 : Nat → Nat) (w w1 : World) : Prop where
  size : w.heap.size ≤ w1.heap.size
  same : ∀ k, k < w.heap.size → ρ k / 8 ≠ c → w1.heap[k]? = w.heap[k]?
  keep : ∀ k, k < w.heap.size → ρ k / 8 ≠ c → ρ1 k = ρ k
def cget (chs : List (List Nat)) (c p : Nat) : Nat := (chs.getD c []).getD p 0
def cofT (chs : List (List Nat)) (i : Nat) : Nat := chs.findIdx fun l => l.contains i
def pofT (chs : List (List Nat)) (i : Nat) : Nat := (chs.getD (cofT chs i) []).idxOf i
def chainsT (T : List (List Nat × List Nat)) (l l' : List Bool) (chs : List (List Nat)) (tl : List Nat) (fuel : Nat) : Bool :=
  acycT T && shutT T l && decide (l.length = T.length) && decide (l'.length = T.length) && decide ((restT l).length = fuel) && decide ((restT l').length = tl.length)
  && ((List.range chs.length).all fun c => (List.range (chs.getD c []).length).all fun p => cofT chs (cget chs c p) == c && pofT chs (cget chs c p) == p && decide (cget chs c p < T.length) && !l.getD (cget chs c p) true && l'.getD (cget chs c p) false && (p == 0 || (needT T (cget chs c p)).contains (cget chs c (p - 1))) && (tl.all fun t => reachT T (cget chs c p) T.length t))
  && ((List.range T.length).all fun i => l.getD i false || tl.contains i || (decide (cofT chs i < chs.length) && decide (pofT chs i < (chs.getD (cofT chs i) []).length) && cget chs (cofT chs i) (pofT chs i) == i))
  && ((List.range T.length).all fun i => l'.getD i false == (l.getD i false || !tl.contains i)) && (tl.all fun t => !l.getD t false) && decide (0 < chs.flatten.length || chs.isEmpty)
section
variable {P : Program} {ops : Array Oper} {Q : Exit → Act → World → Prop} {md : Region.Mode} {S : World → Prop} {ds : List Nat}
theorem count_set {l : Array Bool} {i : Nat} (hi : i < l.size) (h : l.getD i false = false) : (restT (l.setIfInBounds i true).toList).length + 1 = (restT l.toList).length := by
  have hset : ∀ j, (l.setIfInBounds i true).getD j false = upd (fun j => l.getD j false) i j := fun j => by
    unfold upd
    by_cases hij : j = i
    · subst hij
      rw [if_pos rfl]
      simp [Array.getD_eq_getD_getElem?, hi]
    · rw [if_neg hij]
      exact getD_set_ne false (Ne.symm hij)
  have he : restT (l.setIfInBounds i true).toList = (restT l.toList).filter (fun j => j != i) := by
    unfold restT
    rw [List.filter_filter]
    have hz : (l.setIfInBounds i true).toList.length = l.toList.length := by simp
    rw [hz]
    refine List.filter_congr fun j hj => ?_
    rw [← gd, ← gd, hset]
    unfold upd
    by_cases hji : j = i
    · subst hji; simp
    · rw [if_neg hji]; simp [hji]
  have hi1 : i ∈ restT l.toList := by
    unfold restT
    rw [List.mem_filter, List.mem_range]
    exact ⟨by simpa using hi, by rw [← gd, h]; rfl⟩
  have hnd : (restT l.toList).Nodup := by
    unfold restT
    exact List.Pairwise.filter _ List.nodup_range
  rw [he, ← hnd.erase_eq_filter i, List.length_erase_of_mem hi1]
  have := List.length_pos_of_mem hi1
  omega
theorem reach_up {T : List (List Nat × List Nat)} {l : Array Bool} {i : Nat} (hcl : ∀ j k, k ∈ needT T j → l.getD j false = true → l.getD k false = true) : ∀ (fuel d : Nat), reachT T i fuel d = true → (∀ j ∈ needT T d, l.getD j false = true) → l.getD i false = true
  | 0, _, h, _ => by cases h
  | fuel + 1, d, h, hn => by
    unfold reachT at h
    cases hq : T[d]? with
    | none => rw [hq] at h; cases h
    | some r =>
      rw [hq] at h
      obtain ⟨j, hj, h1⟩ := List.any_eq_true.1 h
      have hjn : j ∈ needT T d := by unfold needT; rw [hq]; exact hj
      rw [Bool.or_eq_true, beq_iff_eq] at h1
      rcases h1 with rfl | h1
      · exact hn j hjn
      · exact reach_up hcl fuel j h1 (fun k hk => hcl j k hk (hn j hjn))
theorem chains_go {T : Bool × List (List Nat × List Nat)} (hT : rtab md ops = T) (chs : List (List Nat)) (tl : List Nat) (l' : Array Bool) (fr : (Nat → Value) → Act) (Base : World → Prop) (A : Nat → Nat → (Nat → Value) → (Nat → Nat) → World → Prop) (hS : ∀ w, Base w → S w)
    (hac : acycT T.2 = true) (hl' : l'.size = T.2.length)
    (hch : ∀ c, c < chs.length → ∀ p, p < (chs.getD c []).length → cofT chs (cget chs c p) = c ∧ pofT chs (cget chs c p) = p ∧ cget chs c p < T.2.length ∧ l'.getD (cget chs c p) false = true ∧ (p = 0 ∨ cget chs c (p - 1) ∈ needT T.2 (cget chs c p)) ∧ ∀ t ∈ tl, reachT T.2 (cget chs c p) T.2.length t = true)
    (hdep : ∀ c p u i v ρ w, cofT chs i ≠ c → A c p u ρ w → A c p (updv u i v) ρ w)
    (hst : ∀ c c' p u ρ ρ1 w w1, c ≠ c' → chs.getD c' [] ≠ [] → MvC c' ρ ρ1 w w1 → A c p u ρ w → A c p u ρ1 w1)
    (hstep : ∀ c p, c < chs.length → p < (chs.getD c []).length → ∀ u ρ w, Base w → (∀ c', c' < chs.length → chs.getD c' [] = [] → A c' 0 u ρ w) → A c p u ρ w → wpOp P ops Q (cget chs c p) (fun a' w' => ∃ v ρ1, a' = fr (updv u (cget chs c p) v) ∧ Base w' ∧ MvC c ρ ρ1 w w' ∧ A c (p + 1) (updv u (cget chs c p) v) ρ1 w') (fr u) w)
    (hend : ∀ u ρ w, Base w → (∀ c, c < chs.length → A c (chs.getD c []).length u ρ w) → wpAnyLast P md ops Q S ds tl.length l' (fr u) w) :
    ∀ (m : Nat) (l : Array Bool) (u : Nat → Value) (ρ : Nat → Nat) (w : World) (pr : Nat → Nat), l.size = T.2.length → (restT l.toList).length = m + tl.length →
      (∀ i, i < T.2.length → l'.getD i false = (l.getD i false || !tl.contains i)) → (∀ i, i < T.2.length → l.getD i false = true ∨ i ∈ tl ∨ (cofT chs i < chs.length ∧ pofT chs i < (chs.getD (cofT chs i) []).length ∧ cget chs (cofT chs i) (pofT chs i) = i)) → (∀ t ∈ tl, l.getD t false = false) → (restT l'.toList).length = tl.length →
      (∀ j k, k ∈ needT T.2 j → l.getD j false = true → l.getD k false = true) →
      (∀ c, c < chs.length → pr c ≤ (chs.getD c []).length ∧ ∀ p, p < (chs.getD c []).length → l.getD (cget chs c p) false = decide (p < pr c)) → Base w → (∀ c, c < chs.length → A c (pr c) u ρ w) → wpAnyLast P md ops Q S ds (m + tl.length) l (fr u) w := by
  have hlen : T.2.length = ops.size := by rw [← hT]; exact rtab_length
  intro m
  induction m with
  | zero =>
    intro l u ρ w pr hl hm hl1 hcov htl hl2 hcl hpr hb hA
    
    have hll : l = l' := by
      have hle : ∀ i, l.getD i false = true → l'.getD i false = true := fun i hi => by
        rcases Nat.lt_or_ge i T.2.length with hlt | hge
        · rw [hl1 i hlt, hi]; rfl
        · simp [Array.getElem?_eq_none (show l.size ≤ i by omega)] at hi
      have hsub : ∀ j ∈ restT l'.toList, j ∈ restT l.toList := fun j hj => by
        unfold restT at hj ⊢
        rw [List.mem_filter, List.mem_range, ← gd] at *
        refine ⟨by simp at hj ⊢; omega, ?_⟩
        rcases Bool.eq_false_or_eq_true (l.getD j false) with h | h
        · rw [hle j h] at hj; simp at hj
        · rw [h]; rfl
      refine Array.ext (by omega) fun i h1 h2 => ?_
      have e1 : l[i] = l.getD i false := by simp [h1]
      have e2 : l'[i] = l'.getD i false := by simp [h2]
      rw [e1, e2]
      rcases Bool.eq_false_or_eq_true (l.getD i false) with h | h
      · rw [h, hle i h]
      · rw [h]
        rcases hcov i (by omega) with h3 | h3 | ⟨h3, h4, h5⟩
        · rw [h] at h3; cases h3
        · rw [hl1 i (by omega), h]; simp [h3]
        · 
          exfalso
          have hi1 : i ∈ restT l.toList := by
            unfold restT
            rw [List.mem_filter, List.mem_range, ← gd, h]
            exact ⟨by simpa using h1, rfl⟩
          have hi2 : i ∉ restT l'.toList := by
            unfold restT
            rw [List.mem_filter, List.mem_range, ← gd]
            have := (hch _ h3 _ h4).2.2.2.1
            rw [h5] at this
            rw [this]
            simp
          have hsub2 : ∀ j ∈ restT l'.toList, j ∈ (restT l.toList).filter (fun j => j != i) := fun j hj => by
            rw [List.mem_filter]
            exact ⟨hsub j hj, by simp; rintro rfl; exact hi2 hj⟩
          have he : restT l'.toList = ((restT l.toList).filter (fun j => j != i)).filter (fun j => !l'.toList.getD j false) := by
            unfold restT
            rw [List.filter_filter, List.filter_filter]
            have hz : l'.toList.length = l.toList.length := by simp; omega
            rw [hz]
            refine List.filter_congr fun j hj => ?_
            rcases Bool.eq_false_or_eq_true (l'.toList.getD j false) with h6 | h6
            · rw [h6]; simp
            · rw [h6]
              have h7 : l.toList.getD j false = false := by
                rcases Bool.eq_false_or_eq_true (l.toList.getD j false) with h8 | h8
                · rw [← gd] at h8 h6; rw [hle j h8] at h6; cases h6
                · exact h8
              have h8 : j ≠ i := by
                rintro rfl
                have := (hch _ h3 _ h4).2.2.2.1
                rw [h5, gd, h6] at this
                cases this
              rw [h7]; simp [h8]
          have h9 : (restT l'.toList).length ≤ ((restT l.toList).filter (fun j => j != i)).length := by
            rw [he]; exact List.length_filter_le _ _
          have h10 : ((restT l.toList).filter (fun j => j != i)).length < (restT l.toList).length := List.length_filter_lt_length_iff_exists.2 ⟨i, hi1, by simp⟩
          omega
    subst hll
    rw [Nat.zero_add]
    refine hend u ρ w hb fun c hc => ?_
    have h1 := hpr c hc
    have h2 : pr c = (chs.getD c []).length := by
      rcases Nat.lt_or_ge (pr c) (chs.getD c []).length with h | h
      · have h3 := h1.2 (pr c) h
        rw [(hch c hc (pr c) h).2.2.2.1] at h3
        simp at h3
      · omega
    rw [← h2]
    exact hA c hc
  | succ m ih =>
    intro l u ρ w pr hl hm hl1 hcov htl hl2 hcl hpr hb hA
    rw [show m + 1 + tl.length = (m + tl.length) + 1 by omega]
    
    have hsome : ∃ i, i < T.2.length ∧ l.getD i false = false ∧ i ∉ tl := by
      refine Classical.byContradiction fun hno => ?_
      have hall : ∀ j ∈ restT l.toList, j ∈ restT l'.toList := fun j hj => by
        unfold restT at hj ⊢
        rw [List.mem_filter, List.mem_range, ← gd] at *
        have h1 : j < T.2.length := by simp at hj; omega
        refine ⟨by simp; omega, ?_⟩
        have h2 : l.getD j false = false := by simpa using hj.2
        have h3 : j ∈ tl := Classical.byContradiction fun h3 => hno ⟨j, h1, h2, h3⟩
        rw [hl1 j h1, h2]
        simp [h3]
      have he : restT l.toList = (restT l'.toList).filter (fun j => !l.toList.getD j false) := by
        unfold restT
        rw [List.filter_filter]
        have hz : l'.toList.length = l.toList.length := by simp; omega
        rw [hz]
        refine List.filter_congr fun j hj => ?_
        rcases Bool.eq_false_or_eq_true (l.toList.getD j false) with h6 | h6
        · rw [h6]; simp
        · have h7 := hall j (by unfold restT; rw [List.mem_filter]; exact ⟨hj, by rw [h6]; rfl⟩)
          unfold restT at h7
          rw [List.mem_filter] at h7
          rw [h6, h7.2]; rfl
      have := List.length_filter_le (fun j => !l.toList.getD j false) (restT l'.toList)
      rw [← he] at this
      omega
    refine ⟨fun h => ?_, fun i hi => ?_⟩
    · rw [ready_eq, hT] at h
      obtain ⟨i, hi, hf, _⟩ := hsome
      have := readyT_none hac (by simp; omega) h i hi
      rw [← gd, hf] at this
      cases this
    · rw [ready_eq, hT] at hi
      obtain ⟨h1, h2, h3⟩ := mem_readyT hi
      have h2' : l.getD i false = false := by rw [gd, ← getD_same (by simp; omega)]; exact h2
      have h3' : ∀ j ∈ needT T.2 i, l.getD j false = true := fun j hj => by rw [gd]; exact h3 j hj
      have hnt : i ∉ tl := fun ht => by
        obtain ⟨j, hj, hf, hn⟩ := hsome
        rcases hcov j hj with h4 | h4 | ⟨h4, h5, h6⟩
        · rw [hf] at h4; cases h4
        · exact hn h4
        · have h7 := (hch _ h4 _ h5).2.2.2.2.2 i ht
          rw [h6] at h7
          rw [reach_up hcl _ _ h7 h3'] at hf
          cases hf
      obtain ⟨hc, hp, hcp⟩ : cofT chs i < chs.length ∧ pofT chs i < (chs.getD (cofT chs i) []).length ∧ cget chs (cofT chs i) (pofT chs i) = i := by
        rcases hcov i h1 with h4 | h4 | h4
        · rw [h2'] at h4; cases h4
        · exact absurd h4 hnt
        · exact h4
      generalize cofT chs i = c at hc hp hcp
      generalize pofT chs i = p at hp hcp
      have hcc := hch c hc p hp
      have hprc := hpr c hc
      have hpp : p = pr c := by
        have h4 := hprc.2 p hp
        rw [hcp, h2'] at h4
        have h4 : ¬ p < pr c := by simpa using h4.symm
        rcases hcc.2.2.2.2.1 with h5 | h5
        · omega
        · rw [hcp] at h5
          have h6 := h3' _ h5
          rw [hprc.2 (p - 1) (by omega)] at h6
          have := of_decide_eq_true h6
          omega
      have hset : ∀ j, (l.setIfInBounds i true).getD j false = upd (fun j => l.getD j false) i j := fun j => by
        unfold upd
        by_cases hij : j = i
        · subst hij
          rw [if_pos rfl]
          simp [Array.getD_eq_getD_getElem?, show j < l.size by omega]
        · rw [if_neg hij]
          exact getD_set_ne false (Ne.symm hij)
      have hw := hstep c p hc hp u ρ w hb (fun c' hc' he => by
        have h1 := (hpr c' hc').1
        rw [he] at h1
        have h2 := hA c' hc'
        rwa [Nat.le_zero.1 h1] at h2) (by rw [hpp]; exact hA c hc)
      rw [hcp] at hw
      refine wpOp_mono (fun a' w' hI => ?_) hw
      obtain ⟨v, ρ1, rfl, hb1, hmv, hA1⟩ := hI
      refine ⟨fun _ _ => hS w' hb1, ih (l.setIfInBounds i true) (updv u i v) ρ1 w' (fun c' => if c' = c then p + 1 else pr c') (by simpa using hl) ?_ ?_ ?_ ?_ hl2 ?_ ?_ hb1 ?_⟩
      · have := count_set (l := l) (i := i) (by omega) h2'
        omega
      · intro j hj
        rw [hset]
        unfold upd
        split
        · rename_i hji
          subst hji
          rw [hl1 j hj, h2']
          simp [hnt]
        · exact hl1 j hj
      · intro j hj
        rw [hset]
        unfold upd
        split
        · exact .inl rfl
        · exact hcov j hj
      · intro t ht
        rw [hset]
        unfold upd
        rw [if_neg (show ¬ t = i from fun e => hnt (e ▸ ht))]
        exact htl t ht
      · intro j k hk hj
        rw [hset] at hj ⊢
        unfold upd at hj ⊢
        split
        · rfl
        · split at hj
          · rename_i hji
            subst hji
            exact h3' k hk
          · exact hcl j k hk hj
      · intro c' hc'
        refine ⟨?_, fun p' hp' => ?_⟩
        · show (if c' = c then p + 1 else pr c') ≤ _
          split
          · rename_i e; subst e; omega
          · exact (hpr c' hc').1
        · rw [hset]
          unfold upd
          have hin := hch c' hc' p' hp'
          by_cases hcc' : c' = c
          · subst hcc'
            show _ = decide (p' < if c' = c' then p + 1 else pr c')
            rw [if_pos rfl]
            by_cases hq : p' = p
            · subst hq
              rw [if_pos hcp]
              simp
            · rw [if_neg (fun e => hq (by rw [← hin.2.1, e, ← hcp, hcc.2.1]))]
              show l.getD (cget chs c' p') false = _
              rw [(hpr c' hc').2 p' hp']
              simp only [decide_eq_decide]
              omega
          · show _ = decide (p' < if c' = c then p + 1 else pr c')
            rw [if_neg hcc']
            rw [if_neg (fun e => hcc' (by rw [← hin.1, e, ← hcp, hcc.1]))]
            exact (hpr c' hc').2 p' hp'
      · intro c' hc'
        show A c' (if c' = c then p + 1 else pr c') _ _ _
        by_cases hcc' : c' = c
        · subst hcc'
          rw [if_pos rfl]
          exact hA1
        · rw [if_neg hcc']
          refine hdep c' (pr c') u i v ρ1 w' ?_ (hst c' c (pr c') u ρ ρ1 w w' hcc' (fun e => by rw [e] at hp; cases hp) hmv (hA c' hc'))
          rw [← hcp, hcc.1]
          exact fun e => hcc' e.symm
theorem chains_ {T : Bool × List (List Nat × List Nat)} {fuel : Nat} {l : Array Bool} {a : Act} {w : World} (hT : rtab md ops = T) (chs : List (List Nat)) (tl : List Nat) (l' : Array Bool) (hck : chainsT T.2 l.toList l'.toList chs tl fuel = true) (fr : (Nat → Value) → Act) (Base : World → Prop) (A : Nat → Nat → (Nat → Value) → (Nat → Nat) → World → Prop) (hS : ∀ w, Base w → S w)
    (u0 : Nat → Value) (ρ0 : Nat → Nat) (ha : a = fr u0) (hb : Base w) (h0 : ∀ c, c < chs.length → A c 0 u0 ρ0 w)
    (hdep : ∀ c p u i v ρ w, cofT chs i ≠ c → A c p u ρ w → A c p (updv u i v) ρ w)
    (hst : ∀ c c' p u ρ ρ1 w w1, c ≠ c' → chs.getD c' [] ≠ [] → MvC c' ρ ρ1 w w1 → A c p u ρ w → A c p u ρ1 w1)
    (hstep : ∀ c p, c < chs.length → p < (chs.getD c []).length → ∀ u ρ w, Base w → (∀ c', c' < chs.length → chs.getD c' [] = [] → A c' 0 u ρ w) → A c p u ρ w → wpOp P ops Q (cget chs c p) (fun a' w' => ∃ v ρ1, a' = fr (updv u (cget chs c p) v) ∧ Base w' ∧ MvC c ρ ρ1 w w' ∧ A c (p + 1) (updv u (cget chs c p) v) ρ1 w') (fr u) w)
    (hend : ∀ u ρ w, Base w → (∀ c, c < chs.length → A c (chs.getD c []).length u ρ w) → wpAnyLast P md ops Q S ds tl.length l' (fr u) w) : wpAnyLast P md ops Q S ds fuel l a w := by
  unfold chainsT at hck
  simp only [Bool.and_eq_true, decide_eq_true_eq] at hck
  obtain ⟨⟨⟨⟨⟨⟨⟨⟨⟨⟨h1, h2⟩, h3⟩, h4⟩, h5⟩, h6⟩, h7⟩, h8⟩, h9⟩, h10⟩, _⟩ := hck
  have hch : ∀ c, c < chs.length → ∀ p, p < (chs.getD c []).length → cofT chs (cget chs c p) = c ∧ pofT chs (cget chs c p) = p ∧ cget chs c p < T.2.length ∧ l.getD (cget chs c p) true = false ∧ l'.getD (cget chs c p) false = true ∧ (p = 0 ∨ cget chs c (p - 1) ∈ needT T.2 (cget chs c p)) ∧ ∀ t ∈ tl, reachT T.2 (cget chs c p) T.2.length t = true := fun c hc p hp => by
    have h := List.all_eq_true.1 (List.all_eq_true.1 h7 c (List.mem_range.2 hc)) p (List.mem_range.2 hp)
    simp only [Bool.and_eq_true, beq_iff_eq, decide_eq_true_eq, Bool.or_eq_true, List.contains_iff_mem] at h
    obtain ⟨⟨⟨⟨⟨⟨a1, a2⟩, a3⟩, a4⟩, a5⟩, a6⟩, a7⟩ := h
    exact ⟨a1, a2, a3, by rw [gd]; simpa using a4, by rw [gd]; exact a5, a6, fun t ht => List.all_eq_true.1 a7 t ht⟩
  have hfu : fuel = (fuel - tl.length) + tl.length := by
    
    have hsub : (restT l'.toList).length ≤ (restT l.toList).length := by
      have he : restT l'.toList = (restT l.toList).filter (fun j => !l'.toList.getD j false) := by
        unfold restT
        rw [List.filter_filter, h3, h4]
        refine List.filter_congr fun j hj => ?_
        have h := List.all_eq_true.1 h9 j hj
        rw [beq_iff_eq] at h
        rcases Bool.eq_false_or_eq_true (l.toList.getD j false) with h11 | h11
        · rw [h11, Bool.true_or] at h; rw [h]; rfl
        · rw [h11]; simp
      rw [he]
      exact List.length_filter_le _ _
    omega
  rw [ha, hfu]
  refine chains_go hT chs tl l' fr Base A hS h1 (by simpa using h4) (fun c hc p hp => ⟨(hch c hc p hp).1, (hch c hc p hp).2.1, (hch c hc p hp).2.2.1, (hch c hc p hp).2.2.2.2.1, (hch c hc p hp).2.2.2.2.2.1, (hch c hc p hp).2.2.2.2.2.2⟩) hdep hst hstep hend (fuel - tl.length) l u0 ρ0 w (fun _ => 0) (by simpa using h3) (by omega) ?_ ?_ ?_ h6 ?_ ?_ hb h0
  · intro i hi
    have h := List.all_eq_true.1 h9 i (List.mem_range.2 hi)
    rw [beq_iff_eq] at h
    rw [gd, gd]
    exact h
  · intro i hi
    have h := List.all_eq_true.1 h8 i (List.mem_range.2 hi)
    simp only [Bool.or_eq_true, Bool.and_eq_true, decide_eq_true_eq, beq_iff_eq, List.contains_iff_mem] at h
    rcases h with (h | h) | ⟨⟨h, h'⟩, h''⟩
    · exact .inl (by rw [gd]; exact h)
    · exact .inr (.inl h)
    · exact .inr (.inr ⟨h, h', h''⟩)
  · intro t ht
    have := List.all_eq_true.1 h10 t ht
    rw [gd]
    simpa using this
  · intro j k hk hj
    have hj1 : j < T.2.length := by
      unfold needT at hk
      cases hq : T.2[j]? with
      | none => rw [hq] at hk; cases hk
      | some r => exact (List.getElem?_eq_some_iff.1 hq).1
    have h := List.all_eq_true.1 h2 j (List.mem_range.2 hj1)
    rw [gd] at hj ⊢
    rw [hj, Bool.not_true, Bool.false_or] at h
    exact List.all_eq_true.1 h k hk
  · intro c hc
    refine ⟨Nat.zero_le _, fun p hp => ?_⟩
    have h := hch c hc p hp
    rw [gd, ← getD_same (by rw [h3]; exact h.2.2.1), ← gd, h.2.2.2.1]
    simp
end
end Go.Proofs.YtelmidpepojbdaaGreat.Tower
namespace Go.Proofs.YtelmidpepojbdaaGreat.Tower
open Go Go.RowKit Go.Proofs.YtelmidpepojbdaaGreatW.PrintWords Go.Proofs.YtelmidpepojbdaaGreatW.PrintLast Go.Proofs.YtelmidpepojbdaaGreatW.PrintMore Go.Proofs.YtelmidpepojbdaaGreat.Own
set_option linter.unusedVariables false
set_option linter.unusedSimpArgs false
def puts (a : Act) : List (Nat × Nat) → (Nat → Value) → Act
  | [], _ => a
  | q :: r, u => puts (a.put (some q.1) (u q.2)) r u
theorem put_comm (a : Act) {s t : Nat} (h : s ≠ t) (v x : Value) : (a.put (some s) v).put (some t) x = (a.put (some t) x).put (some s) v := by
  simp only [Act.put]
  rw [Array.setIfInBounds_comm _ _ h]
theorem put_put (a : Act) (s : Nat) (v x : Value) : (a.put (some s) v).put (some s) x = a.put (some s) x := by
  simp [Act.put]
theorem puts_far {s : Nat} (v : Value) (u : Nat → Value) : ∀ (sl : List (Nat × Nat)) (a : Act), (∀ q ∈ sl, q.1 ≠ s) → (puts a sl u).put (some s) v = puts (a.put (some s) v) sl u
  | [], _, _ => rfl
  | q :: r, a, h => by
    unfold puts
    rw [puts_far v u r _ (fun q hq => h q (List.mem_cons_of_mem _ hq)), put_comm a (h q List.mem_cons_self)]
theorem puts_same {u u1 : Nat → Value} : ∀ (sl : List (Nat × Nat)) (a : Act), (∀ q ∈ sl, u q.2 = u1 q.2) → puts a sl u = puts a sl u1
  | [], _, _ => rfl
  | q :: r, a, h => by
    unfold puts
    rw [h q List.mem_cons_self, puts_same r _ (fun q hq => h q (List.mem_cons_of_mem _ hq))]
def slotsOk (sl : List (Nat × Nat)) : Bool := decide (sl.map Prod.fst).Nodup && decide (sl.map Prod.snd).Nodup
theorem puts_put {s i : Nat} (v : Value) (u : Nat → Value) : ∀ (sl : List (Nat × Nat)) (a : Act), slotsOk sl = true → (s, i) ∈ sl → (puts a sl u).put (some s) v = puts a sl (updv u i v)
  | [], _, _, h => by cases h
  | q :: r, a, hok, h => by
    simp only [slotsOk, List.map_cons, Bool.and_eq_true, decide_eq_true_eq, List.nodup_cons] at hok
    unfold puts
    rcases List.mem_cons.1 h with h | h
    · subst h
      rw [puts_far v u r _ (fun q hq e => hok.1.1 (List.mem_map.2 ⟨_, hq, e⟩)), put_put]
      show puts (a.put (some s) v) r u = puts (a.put (some s) (updv u i v i)) r (updv u i v)
      rw [show updv u i v i = v from if_pos rfl]
      refine puts_same r _ fun q hq => ?_
      unfold updv
      rw [if_neg (fun e => hok.2.1 (List.mem_map.2 ⟨_, hq, e⟩))]
    · have hne : q.2 ≠ i := fun e => hok.2.1 (by rw [e]; exact List.mem_map.2 ⟨(s, i), h, rfl⟩)
      rw [show updv u i v q.2 = u q.2 from if_neg hne]
      exact puts_put v u r _ (by simp only [slotsOk, Bool.and_eq_true, decide_eq_true_eq]; exact ⟨hok.1.2, hok.2.2⟩) h
def cur (a : Act) (sl : List (Nat × Nat)) (i : Nat) : Value := match sl.find? (fun q => q.2 == i) with
  | some q => a.tmps.getD q.1 undef
  | none => undef
theorem put_cur (a : Act) (s : Nat) : a.put (some s) (a.tmps.getD s undef) = a := by
  simp only [Act.put]
  congr 1
  refine Array.ext (by simp) fun i h1 h2 => ?_
  rw [Array.getElem_setIfInBounds]
  split
  · rename_i e; subst e; simp [h2]
  · rfl
theorem puts_cur (a : Act) : ∀ (sl : List (Nat × Nat)), (∀ q ∈ sl, ∀ q1 ∈ sl, q.2 = q1.2 → q = q1) → ∀ r, (∀ q ∈ r, q ∈ sl) → puts a r (cur a sl) = a
  | sl, h, [], _ => rfl
  | sl, h, q :: r, hs => by
    unfold puts
    have : cur a sl q.2 = a.tmps.getD q.1 undef := by
      unfold cur
      cases hf : sl.find? (fun q1 => q1.2 == q.2) with
      | none =>
        have := List.find?_eq_none.1 hf q (hs q List.mem_cons_self)
        simp at this
      | some q1 =>
        have h1 := List.mem_of_find?_eq_some hf
        have h2 := List.find?_some hf
        rw [h q (hs q List.mem_cons_self) q1 h1 (by simpa using (beq_iff_eq.1 h2).symm)]
    rw [this, put_cur]
    exact puts_cur a sl h r (fun q hq => hs q (List.mem_cons_of_mem _ hq))
theorem cur_start (a : Act) (sl : List (Nat × Nat)) (h : slotsOk sl = true) : a = puts a sl (cur a sl) := by
  simp only [slotsOk, Bool.and_eq_true, decide_eq_true_eq] at h
  refine (puts_cur a sl (fun q hq q1 hq1 e => ?_) sl (fun q hq => hq)).symm
  have hnd := h.2
  clear h
  induction sl with
  | nil => cases hq
  | cons x r ih =>
    rw [List.map_cons, List.nodup_cons] at hnd
    rcases List.mem_cons.1 hq with h1 | h1
    · rcases List.mem_cons.1 hq1 with h2 | h2
      · rw [h1, h2]
      · exact absurd (List.mem_map.2 ⟨q1, h2, by rw [← e, h1]⟩) hnd.1
    · rcases List.mem_cons.1 hq1 with h2 | h2
      · exact absurd (List.mem_map.2 ⟨q, h1, by rw [e, h2]⟩) hnd.1
      · exact ih h1 h2 hnd.2
section
variable {P : Program} {ops : Array Oper} {Q : Exit → Act → World → Prop} {md : Region.Mode} {S : World → Prop} {ds : List Nat}
theorem chainsP_ {T : Bool × List (List Nat × List Nat)} {fuel : Nat} {l : Array Bool} {a : Act} {w : World} (hT : rtab md ops = T) (chs : List (List Nat)) (tl : List Nat) (sl : List (Nat × Nat)) (l' : Array Bool) (hck : chainsT T.2 l.toList l'.toList chs tl fuel = true) (hsl : slotsOk sl = true) (Base : World → Prop) (A : Nat → Nat → (Nat → Value) → (Nat → Nat) → World → Prop) (hS : ∀ w, Base w → S w)
    (ρ0 : Nat → Nat) (hb : Base w) (h0 : ∀ c, c < chs.length → ∀ u, A c 0 u ρ0 w)
    (hdep : ∀ c p u i v ρ w, cofT chs i ≠ c → A c p u ρ w → A c p (updv u i v) ρ w)
    (hst : ∀ c c' p u ρ ρ1 w w1, c ≠ c' → chs.getD c' [] ≠ [] → MvC c' ρ ρ1 w w1 → A c p u ρ w → A c p u ρ1 w1)
    (hstep : ∀ c p, c < chs.length → p < (chs.getD c []).length → ∀ u ρ w, Base w → (∀ c', c' < chs.length → chs.getD c' [] = [] → A c' 0 u ρ w) → A c p u ρ w → wpOp P ops Q (cget chs c p) (fun a' w' => ∃ v ρ1, a' = puts a sl (updv u (cget chs c p) v) ∧ Base w' ∧ MvC c ρ ρ1 w w' ∧ A c (p + 1) (updv u (cget chs c p) v) ρ1 w') (puts a sl u) w)
    (hend : ∀ u ρ w, Base w → (∀ c, c < chs.length → A c (chs.getD c []).length u ρ w) → wpAnyLast P md ops Q S ds tl.length l' (puts a sl u) w) : wpAnyLast P md ops Q S ds fuel l a w :=
  chains_ hT chs tl l' hck (puts a sl) Base A hS (cur a sl) ρ0 (cur_start a sl hsl) hb (fun c hc => h0 c hc _) hdep hst hstep hend
theorem cstep_ {sl : List (Nat × Nat)} {a a1 : Act} {u : Nat → Value} {c p i s : Nat} {o : Oper} {ρ : Nat → Nat} {w : World} {Base : World → Prop} {A : Nat → Nat → (Nat → Value) → (Nat → Nat) → World → Prop} (ho : ops[i]? = some o) (hN : o.dst = some s) (hsl : slotsOk sl = true) (hm : sl.contains (s, i) = true) (ha : puts a sl u = a1)
    (h : ∀ K : Act → World → Prop, Shut (∀ v ρ1 w1, Base w1 → MvC c ρ ρ1 w w1 → A c (p + 1) (updv u i v) ρ1 w1 → K (a1.put (some s) v) w1) → if Region.wanted o (yielded ops a1.tmps) = true then Oper.wp P o a1 w K Q else K (a1.put (some s) undef) w) :
    wpOp P ops Q i (fun a' w' => ∃ v ρ1, a' = puts a sl (updv u i v) ∧ Base w' ∧ MvC c ρ ρ1 w w' ∧ A c (p + 1) (updv u i v) ρ1 w') (puts a sl u) w := by
  subst ha
  refine ireg_ ho hN fun K hK => h K fun v ρ1 w1 hb hm1 hA => hK _ _ ⟨v, ρ1, ?_, hb, hm1, hA⟩
  exact puts_put v u sl a hsl (List.contains_iff_mem.1 hm)
end
def paint (ρ : Nat → Nat) (N x k : Nat) : Nat := if k < N then ρ k else x
section
variable {ρ ρ1 : Nat → Nat} {w w1 : World} {c x y : Nat} {α : Type} {d : Kd α} {e base : Nat} {v : Value} {xs : List α}
theorem MvC.below (hb : Below w.heap.size w w1) : MvC c ρ (paint ρ w.heap.size x) w w1 := ⟨hb.size, fun k hk _ => hb.block k hk, fun k hk _ => if_pos hk⟩
theorem MvC.alloc (o : Obj) : MvC c ρ (paint ρ w.heap.size x) w (w.alloc o) := MvC.below (below_alloc (Below.refl _ _) o)
theorem MvC.grown {row : Option Nat} (hg : w.grownBy w1 row) (hr : ∀ k, row = some k → ρ k / 8 = c) : MvC c ρ (paint ρ w.heap.size x) w w1 := ⟨hg.size, fun k hk h => hg.block k hk (fun e => h (hr k e.symm)), fun k hk _ => if_pos hk⟩
theorem MvC.refl (c : Nat) (ρ : Nat → Nat) (w : World) : MvC c ρ ρ w w := ⟨Nat.le_refl _, fun _ _ _ => rfl, fun _ _ _ => rfl⟩
theorem R_col (h : d.R e w base (fun k => ρ k = x) v xs) (hm : ∀ k, k < w.heap.size → ρ k = x → w1.heap[k]? = w.heap[k]? ∧ ρ1 k = x) : d.R e w1 base (fun k => ρ1 k = x) v xs :=
  Kd.R_mono (Kd.R_step (Kd.R_bound h) (fun k hk hlt => (hm k hlt hk.1).1)) (fun k hk => (hm k hk.2.2.1 hk.1).2)
theorem R_mv (h : d.R e w base (fun k => ρ k = x) v xs) (m : MvC c ρ ρ1 w w1) (hx : x / 8 ≠ c) : d.R e w1 base (fun k => ρ1 k = x) v xs :=
  R_col h (fun k hk hc => ⟨m.same k hk (by rw [hc]; exact hx), (m.keep k hk (by rw [hc]; exact hx)).trans hc⟩)
theorem F_col {A : Option Addr} {n : Nat} (h : d.F w (fun k => ρ k = x) A n xs) (hm : ∀ k, k < w.heap.size → ρ k = x → w1.heap[k]? = w.heap[k]? ∧ ρ1 k = x) : d.F w1 (fun k => ρ1 k = x) A n xs :=
  Kd.F_mono (Kd.F_step (Kd.F_bound h) (fun k hk hlt => (hm k hlt hk.1).1)) (fun k hk => (hm k hk.2 hk.1).2)
theorem F_mv {A : Option Addr} {n : Nat} (h : d.F w (fun k => ρ k = x) A n xs) (m : MvC c ρ ρ1 w w1) (hx : x / 8 ≠ c) : d.F w1 (fun k => ρ1 k = x) A n xs :=
  F_col h (fun k hk hc => ⟨m.same k hk (by rw [hc]; exact hx), (m.keep k hk (by rw [hc]; exact hx)).trans hc⟩)
def Bl (ρ : Nat → Nat) (x : Nat) (w : World) (g : Nat) (o : Obj) : Prop := w.heap[g]? = some o ∧ ρ g = x
theorem Bl.mv {g : Nat} {o : Obj} (h : Bl ρ x w g o) (m : MvC c ρ ρ1 w w1) (hx : x / 8 ≠ c) : Bl ρ1 x w1 g o :=
  ⟨(m.same g (blk_lt h.1) (by rw [h.2]; exact hx)).trans h.1, (m.keep g (blk_lt h.1) (by rw [h.2]; exact hx)).trans h.2⟩
theorem Bl.col {g : Nat} {o : Obj} (h : Bl ρ x w g o) (hm : ∀ k, k < w.heap.size → ρ k = x → w1.heap[k]? = w.heap[k]? ∧ ρ1 k = x) : Bl ρ1 x w1 g o := ⟨(hm g (blk_lt h.1) h.2).1.trans h.1, (hm g (blk_lt h.1) h.2).2⟩
theorem Bl.new (ρ : Nat → Nat) (x : Nat) (w : World) (o : Obj) : Bl (paint ρ w.heap.size x) x (w.alloc o) w.heap.size o := ⟨blk_new w o, if_neg (Nat.lt_irrefl _)⟩
theorem col_below (hb : Below w.heap.size w w1) (y : Nat) : ∀ k, k < w.heap.size → ρ k = x → w1.heap[k]? = w.heap[k]? ∧ paint ρ w.heap.size y k = x := fun k hk h => ⟨hb.block k hk, (if_pos hk).trans h⟩
theorem col_alloc (o : Obj) (y : Nat) : ∀ k, k < w.heap.size → ρ k = x → (w.alloc o).heap[k]? = w.heap[k]? ∧ paint ρ w.heap.size y k = x := col_below (below_alloc (Below.refl _ _) o) y
theorem col_grown {row : Option Nat} (hg : w.grownBy w1 row) (y : Nat) (hr : ∀ k, row = some k → ρ k ≠ x) : ∀ k, k < w.heap.size → ρ k = x → w1.heap[k]? = w.heap[k]? ∧ paint ρ w.heap.size y k = x := fun k hk h => ⟨hg.block k hk (fun e => hr k e.symm h), (if_pos hk).trans h⟩
theorem R_none (d : Kd α) (e : Nat) (w : World) (base : Nat) (hb : base ≤ w.heap.size) (ρ : Nat → Nat) (x : Nat) : d.R e (w.alloc (.cells #[] e)) base (fun k => paint ρ w.heap.size x k = x) (.slice (some ⟨w.heap.size, 0, none⟩) 0 0) [] :=
  Kd.R_lower (Kd.R_mono (R_empty d e w w.heap.size (Nat.le_refl _)) (fun k hk => if_neg (by omega))) hb
theorem R_new (h : d.R e w1 w.heap.size (fun _ => True) v xs) (x : Nat) : d.R e w1 w.heap.size (fun k => paint ρ w.heap.size x k = x) v xs :=
  Kd.R_mono (Kd.R_bound h) (fun k hk => if_neg (by have := hk.2.1; omega))
end
end Go.Proofs.YtelmidpepojbdaaGreat.Tower
namespace Go.Proofs.YtelmidpepojbdaaGreat.Tower
open Go Go.RowKit Go.Proofs.YtelmidpepojbdaaGreatW.PrintWords Go.Proofs.YtelmidpepojbdaaGreatW.PrintLast Go.Proofs.YtelmidpepojbdaaGreatW.PrintMore Go.Proofs.YtelmidpepojbdaaGreat.Own Go.Proofs.YtelmidpepojbdaaGreat.PMendRight
set_option linter.unusedVariables false
set_option linter.unusedSimpArgs false
structure Row (ρ : Nat → Nat) (x : Nat) (Y : Nat → Prop) (w : World) (base : Nat) (v : Value) (row : List Sh) : Prop where
  row : kSh.N 29 w base (fun k => ρ k = x ∨ Y (ρ k)) v row
  own : ∀ k, v.ownBlock = some k → ρ k = x
def Y16 (c : Nat) : Prop := c = 16
section
variable {ρ ρ1 : Nat → Nat} {x c base : Nat} {Y Y1 : Nat → Prop} {w w1 : World} {v : Value} {row : List Sh}
theorem Row.col (h : Row ρ x Y w base v row) (hm : ∀ k, k < w.heap.size → (ρ k = x ∨ Y (ρ k)) → w1.heap[k]? = w.heap[k]? ∧ ρ1 k = ρ k) : Row ρ1 x Y w1 base v row where
  row := Kd.N_mono (Kd.N_step (Kd.N_bound h.row) (fun k hk hlt => (hm k hlt hk.1).1)) (fun k hk => by rw [(hm k hk.2 hk.1).2]; exact hk.1)
  own := fun k hk => by have h1 := h.own k hk; rw [(hm k (Kd.N_lt h.row k hk) (.inl h1)).2]; exact h1
theorem Row.mv (h : Row ρ x Y w base v row) (m : MvC c ρ ρ1 w w1) (hx : x / 8 ≠ c) (hc : ∀ y, Y y → y / 8 ≠ c) : Row ρ1 x Y w1 base v row :=
  h.col (fun k hk hh => by
    have h1 : ρ k / 8 ≠ c := by rcases hh with h1 | h1; · rw [h1]; exact hx
                                · exact hc _ h1
    exact ⟨m.same k hk h1, m.keep k hk h1⟩)
theorem Row.nil (ρ : Nat → Nat) (x : Nat) (Y : Nat → Prop) (w : World) (base : Nat) : Row ρ x Y w base (.slice none 0 0) [] := ⟨Kd.N_nil _ _ _ _ _, fun k hk => by simp [Value.ownBlock] at hk⟩
theorem Row.grown (h : Row ρ x Y w base v row) {r : Option Nat} (hg : w.grownBy w1 r) (hr : ∀ k, r = some k → ρ k ≠ x ∧ ¬ Y (ρ k)) (y : Nat) : Row (paint ρ w.heap.size y) x Y w1 base v row :=
  h.col (fun k hk hh => ⟨hg.block k hk (fun e => hh.elim (hr k e.symm).1 (hr k e.symm).2), if_pos hk⟩)
theorem Row.allocd (h : Row ρ x Y w base v row) (o : Obj) (y : Nat) : Row (paint ρ w.heap.size y) x Y (w.alloc o) base v row := h.col (fun k hk _ => ⟨Below.heap_alloc _ _ _ hk, if_pos hk⟩)
theorem Row.tint (h : Row ρ x Y w base v row) {y : Nat} (hx : ∀ k, k < w.heap.size → ρ k = x → ρ1 k = y) (hf : ∀ k, k < w.heap.size → Y (ρ k) → Y1 (ρ1 k)) : Row ρ1 y Y1 w base v row where
  row := Kd.N_mono (Kd.N_bound h.row) (fun k hk => hk.1.elim (fun h1 => .inl (hx k hk.2 h1)) (fun h1 => .inr (hf k hk.2 h1)))
  own := fun k hk => hx k (Kd.N_lt h.row k hk) (h.own k hk)
theorem Row.below (h : Row ρ x Y w base v row) (hb : Below w.heap.size w w1) : Row ρ x Y w1 base v row := ⟨Kd.N_below h.row hb, h.own⟩
theorem own_paint {v1 : Value} (hat : v1.ownBlock = v.ownBlock ∨ ∃ b, v1.ownBlock = some b ∧ w.heap.size ≤ b) (ho : ∀ k, v.ownBlock = some k → ρ k = x) (hl : ∀ k, v.ownBlock = some k → k < w.heap.size) : ∀ k, v1.ownBlock = some k → paint ρ w.heap.size x k = x := fun k hk => by
  rcases hat with hat | ⟨b1, hb2, hle⟩
  · have h1 : v.ownBlock = some k := hat ▸ hk
    exact (if_pos (hl k h1)).trans (ho k h1)
  · have h1 : some b1 = some k := hb2.symm.trans hk
    injection h1 with h1
    exact if_neg (by omega)
theorem R_tint {α : Type} {d : Kd α} {e : Nat} {xs : List α} {y : Nat} (h : d.R e w base (fun k => ρ k = x) v xs) (hx : ∀ k, k < w.heap.size → ρ k = x → ρ1 k = y) : d.R e w base (fun k => ρ1 k = y) v xs := Kd.R_mono (Kd.R_bound h) (fun k hk => hx k hk.2.2.1 hk.1)
theorem F_tint {α : Type} {d : Kd α} {A : Option Addr} {n : Nat} {xs : List α} {y : Nat} (h : d.F w (fun k => ρ k = x) A n xs) (hx : ∀ k, k < w.heap.size → ρ k = x → ρ1 k = y) : d.F w (fun k => ρ1 k = y) A n xs := Kd.F_mono (Kd.F_bound h) (fun k hk => hx k hk.2 hk.1)
theorem Bl.tint {g : Nat} {o : Obj} {y : Nat} (h : Bl ρ x w g o) (hx : ∀ k, k < w.heap.size → ρ k = x → ρ1 k = y) : Bl ρ1 y w g o := ⟨h.1, hx g (blk_lt h.1) h.2⟩
theorem Bl.below {g : Nat} {o : Obj} (h : Bl ρ x w g o) (hb : Below w.heap.size w w1) : Bl ρ x w1 g o := ⟨blk_below h.1 hb, h.2⟩
theorem one_F {α : Type} {d : Kd α} {g : Nat} {cs : List Value} {t : Nat} {p : α} {ok : Nat → Prop} (hb : w.heap[g]? = some (.cells cs.toArray t (0, 0))) (hk : d.FK w ok p cs) : d.F w (fun k => k = g ∨ ok k) (some ⟨g, 0, none⟩) 1 [p] := by
  intro W hW
  have hg : W.heap[g]? = some (.cells cs.toArray t (0, 0)) := (hW g (.inl rfl) (blk_lt hb)).trans hb
  refine ⟨rfl, by omega, fun _ => ⟨⟨g, 0, none⟩, rfl, fun j q hq => ?_⟩⟩
  have hj : j = 0 := by
    rcases Nat.eq_zero_or_pos j with h | h
    · exact h
    · rw [List.getElem?_eq_none (by simp; omega)] at hq; cases hq
  subst hj
  injection hq with hq
  subst hq
  have hK : d.K W p cs := hk W (fun k hk1 hlt => hW k (.inr hk1) hlt)
  refine ⟨cs, d.K_len hK, hK, fun i u hu => ?_⟩
  have hil := (List.getElem?_eq_some_iff.1 hu).1
  have := blk_cell hg i
  rw [Nat.zero_mul, Nat.zero_add, add_at, Nat.zero_add, this]
  simpa using hu
end
theorem wrap_succ (k : Nat) (h : k ≤ 1000) : wrap64 ((k : Int) + 1) = ((k + 1 : Nat) : Int) := by unfold wrap64; omega
theorem meas_succ {k n : Nat} (hk : k < n) (h : k ≤ 1000) : n - (intOf (Value.int .i64 (wrap64 ((k : Int) + 1)))).toNat < n - (intOf (Value.int .i64 (k : Int))).toNat := by
  rw [wrap_succ k h, show intOf (Value.int .i64 ((k + 1 : Nat) : Int)) = ((k + 1 : Nat) : Int) from rfl, show intOf (Value.int .i64 (k : Int)) = (k : Int) from rfl, Int.toNat_natCast, Int.toNat_natCast]
  omega
def fade (ρ : Nat → Nat) (k : Nat) : Nat := if ρ k = 1 ∨ ρ k = 2 then 16 else ρ k
theorem fade_keep {ρ : Nat → Nat} {k x : Nat} (h : ρ k = x) (hx : x ≠ 1 ∧ x ≠ 2) : fade ρ k = x := by unfold fade; rw [if_neg (by omega), h]
theorem paint_old {ρ : Nat → Nat} {b n x : Nat} (h : ∀ k, k < b → ρ k = 17) (hb : b ≤ n) : ∀ k, k < b → paint ρ n x k = 17 := fun k hk => (if_pos (Nat.lt_of_lt_of_le hk hb)).trans (h k hk)
theorem fade_old {ρ : Nat → Nat} {b : Nat} (h : ∀ k, k < b → ρ k = 17) : ∀ k, k < b → fade ρ k = 17 := fun k hk => fade_keep (h k hk) (by omega)
theorem fade_16 {ρ : Nat → Nat} {k : Nat} (h : ρ k = 16 ∨ ρ k = 1 ∨ ρ k = 2) : Y16 (fade ρ k) := by
  unfold fade Y16
  rcases h with h | h | h
  · rw [if_neg (by omega), h]
  · rw [if_pos (.inl h)]
  · rw [if_pos (.inr h)]
def zShO : Obj := .cells #[.bool false, .bool false, .slice none 0 0, .slice none 0 0, .slice none 0 0] 29 (0, 0)
structure Ev1 (w : World) (psA : Option Addr) (ps : List Int) (R0 : List Sh) (K0 : List Int) (v0 v5 v6 v23 : Value) (wr : World) (ρ : Nat → Nat) (A : Option Addr) (c : Nat) (xs : List Pr2) (ns : List Nat) (acc : List Sh) (accK : List Int) : Prop where
  e0 : v0 = .slice A xs.length c
  e23 : v23 = .int .i64 (acc.length : Nat)
  cap : xs.length ≤ c
  lC : kP.C w A xs.length xs
  l60 : xs.length ≤ 60
  sum : ns.sum = xs.length
  pos : ∀ n ∈ ns, 1 ≤ n
  cnt : acc.length + ns.length = ps.length
  p60 : ps.length ≤ 60
  told : ∀ j, rd ps ((acc.length + j : Nat) : Int) = ((ns.getD j 0 : Nat) : Int)
  eR : acc ++ leafRow xs ns = R0
  eK : accK ++ leafKey xs ns = K0
  lenK : accK.length = acc.length
  below : Below w.heap.size w wr
  row : Row ρ 0 Y16 wr w.heap.size v5 acc
  fs : (Kd.int .i64).R 2 wr w.heap.size (fun k => ρ k = 8) v6 accK
  parts : (Kd.int .i64).F wr (fun k => ρ k = 17) psA ps.length ps
  box : Bl ρ 18 wr w.heap.size zShO
  old : ∀ k, k < w.heap.size → ρ k = 17
def Ev8A (w0 : World) (base : Nat) (row : List Sh) (v5 : Value) (ys : List Pr2) (fs : List Int) (v6 : Value) (psA : Option Addr) (ps : List Int) (kk : Int) : Nat → Nat → (Nat → Value) → (Nat → Nat) → World → Prop
  | 0, 0, u, ρ, w => Row ρ 0 Y16 w base v5 row
  | 0, 1, u, ρ, w => Row ρ 0 Y16 w base v5 row ∧ kP.R 106 w base (fun k => ρ k = 1) (u 1) []
  | 0, 2, u, ρ, w => Row ρ 0 Y16 w base v5 row ∧ kP.R 106 w base (fun k => ρ k = 1) (u 5) ys
  | 0, 3, u, ρ, w => Row ρ 0 Y16 w base v5 row ∧ kP.R 106 w base (fun k => ρ k = 1) (u 5) ys ∧ u 6 = .agg #[.bool true, .bool false, u 5, .slice none 0 0, .slice none 0 0]
  | 0, 4, u, ρ, w => Row ρ 0 Y16 w base v5 row ∧ kP.R 106 w base (fun k => ρ k = 1) (u 5) ys ∧ ∃ g, u 7 = .slice (some ⟨g, 0, none⟩) 1 1 ∧ Bl ρ 2 w g (.cells #[.bool true, .bool false, u 5, .slice none 0 0, .slice none 0 0] 29 (0, 0))
  | 0, _ + 5, u, ρ, w => Row ρ 0 (fun c => c = 16 ∨ c = 1 ∨ c = 2) w base (u 8) (row ++ [⟨true, false, ys, [], []⟩])
  | 1, 0, u, ρ, w => (Kd.int .i64).R 2 w base (fun k => ρ k = 8) v6 fs
  | 1, _ + 1, u, ρ, w => (Kd.int .i64).R 2 w base (fun k => ρ k = 8) v6 fs ∧ ∃ g, u 14 = .slice (some ⟨g, 0, none⟩) 1 1 ∧ Bl ρ 9 w g (.cells #[.int .i64 kk] 2 (0, 0))
  | 2, _, u, ρ, w => (Kd.int .i64).F w (fun k => ρ k = 17) psA ps.length ps ∧ Bl ρ 18 w base zShO ∧ ∀ k, k < base → ρ k = 17
  | _, _, _, _, _ => True
section
variable {w0 : World} {base : Nat} {row : List Sh} {v5 v6 : Value} {ys : List Pr2} {fs ps : List Int} {psA : Option Addr} {kk : Int}
theorem Ev8A.dep (c p : Nat) (u : Nat → Value) (i : Nat) (v : Value) (ρ : Nat → Nat) (w : World) (hi : cofT [[1, 5, 6, 7, 8], [14], []] i ≠ c) (h : Ev8A w0 base row v5 ys fs v6 psA ps kk c p u ρ w) : Ev8A w0 base row v5 ys fs v6 psA ps kk c p (updv u i v) ρ w := by
  have far : ∀ j, cofT [[1, 5, 6, 7, 8], [14], []] j = c → updv u i v j = u j := fun j hj => if_neg (fun e => hi (by rw [← e]; exact hj))
  match c, p, h with
  | 0, 0, h => exact h
  | 0, 1, h => simp only [Ev8A, far 1 (by rfl)]; exact h
  | 0, 2, h => simp only [Ev8A, far 5 (by rfl)]; exact h
  | 0, 3, h => simp only [Ev8A, far 5 (by rfl), far 6 (by rfl)]; exact h
  | 0, 4, h => simp only [Ev8A, far 5 (by rfl), far 7 (by rfl)]; exact h
  | 0, p + 5, h => simp only [Ev8A, far 8 (by rfl)]; exact h
  | 1, 0, h => exact h
  | 1, p + 1, h => simp only [Ev8A, far 14 (by rfl)]; exact h
  | 2, _, h => exact h
  | c + 3, _, h => exact trivial
theorem Ev8A.still (c c' p : Nat) (u : Nat → Value) (ρ ρ1 : Nat → Nat) (w w1 : World) (hc : c ≠ c') (hn : [[1, 5, 6, 7, 8], [14], []].getD c' [] ≠ []) (m : MvC c' ρ ρ1 w w1) (h : Ev8A w0 base row v5 ys fs v6 psA ps kk c p u ρ w) : Ev8A w0 base row v5 ys fs v6 psA ps kk c p u ρ1 w1 := by
  have hc2 : c' ≠ 2 := fun e => by subst e; exact hn rfl
  have h16 : ∀ y, Y16 y → y / 8 ≠ c' := fun y hy => by rw [show y = 16 from hy]; omega
  match c, p, h with
  | 0, 0, h => exact Row.mv h m (by omega) h16
  | 0, 1, h => exact ⟨h.1.mv m (by omega) h16, R_mv h.2 m (by omega)⟩
  | 0, 2, h => exact ⟨h.1.mv m (by omega) h16, R_mv h.2 m (by omega)⟩
  | 0, 3, h => exact ⟨h.1.mv m (by omega) h16, R_mv h.2.1 m (by omega), h.2.2⟩
  | 0, 4, h =>
    obtain ⟨h1, h2, g, h3, h4⟩ := h
    exact ⟨h1.mv m (by omega) h16, R_mv h2 m (by omega), g, h3, h4.mv m (by omega)⟩
  | 0, p + 5, h => exact Row.mv h m (by omega) (fun y hy => by rcases hy with rfl | rfl | rfl <;> omega)
  | 1, 0, h => exact R_mv h m (by omega)
  | 1, p + 1, h =>
    obtain ⟨h1, g, h3, h4⟩ := h
    exact ⟨R_mv h1 m (by omega), g, h3, h4.mv m (by omega)⟩
  | 2, _, h => exact ⟨F_mv h.1 m (by omega), h.2.1.mv m (by omega), fun k hk => (m.keep k (Nat.lt_trans hk (blk_lt h.2.1.1)) (by rw [h.2.2 k hk]; omega)).trans (h.2.2 k hk)⟩
  | c + 3, _, h => exact trivial
end
end Go.Proofs.YtelmidpepojbdaaGreat.Tower
namespace Go.Proofs.YtelmidpepojbdaaGreat.Tower
open Go Go.RowKit Go.Proofs.YtelmidpepojbdaaGreatW.PrintWords Go.Proofs.YtelmidpepojbdaaGreatW.PrintLast Go.Proofs.YtelmidpepojbdaaGreatW.PrintMore Go.Proofs.YtelmidpepojbdaaGreat.Own Go.Proofs.YtelmidpepojbdaaGreat.PMendRight
set_option linter.unusedVariables false
set_option linter.unusedSimpArgs false
theorem wrap_add (i n : Nat) (h : i + n ≤ 1000) : IntKind.i64.wrap ((i : Int) + (n : Int)) = (i : Int) + (n : Int) := by rw [i64_w]; unfold wrap64; omega
def lenV : Value → Nat
  | .slice _ n _ => n
  | _ => 0
structure Ev2 (w : World) (b : Nat) (s0 : Sh) (v5 v6 : Value) (wr : World) (ρ : Nat → Nat) (f : Nat) (row : List Sh) (fs : List Int) : Prop where
  eU : evenUp b f row fs = s0
  lenF : fs.length = row.length
  pos : 1 ≤ row.length
  l60 : row.length ≤ 60
  fuel : row.length ≤ f + 1
  below : Below w.heap.size w wr
  row : Row ρ 16 Y16 wr w.heap.size v5 row
  fs : (Kd.int .i64).R 2 wr w.heap.size (fun k => ρ k = 20) v6 fs
  box : Bl ρ 18 wr w.heap.size zShO
  old : ∀ k, k < w.heap.size → ρ k = 17
structure Ev3 (w : World) (row : List Sh) (fs : List Int) (v5 v6 : Value) (psA : Option Addr) (ps : List Int) (U0 : List Sh) (K0 : List Int) (v9 v10 v11 v55 : Value) (wr : World) (ρ : Nat → Nat) (i : Nat) (ns : List Nat) (acc : List Sh) (accK : List Int) : Prop where
  e11 : v11 = .int .i64 (i : Nat)
  e55 : v55 = .int .i64 (acc.length : Nat)
  sum : i + ns.sum = row.length
  pos : ∀ n ∈ ns, 1 ≤ n
  cnt : acc.length + ns.length = ps.length
  p60 : ps.length ≤ 60
  told : ∀ j, rd ps ((acc.length + j : Nat) : Int) = ((ns.getD j 0 : Nat) : Int)
  eR : acc ++ upRow row fs i ns = U0
  eK : accK ++ upKey fs i ns = K0
  lenK : accK.length = acc.length
  below : Below w.heap.size w wr
  row : Row ρ 16 Y16 wr w.heap.size v5 row
  fs : (Kd.int .i64).R 2 wr w.heap.size (fun k => ρ k = 20) v6 fs
  up : Row ρ 21 Y16 wr w.heap.size v9 acc
  ks : (Kd.int .i64).R 2 wr w.heap.size (fun k => ρ k = 22) v10 accK
  parts : (Kd.int .i64).F wr (fun k => ρ k = 17) psA ps.length ps
  box : Bl ρ 18 wr w.heap.size zShO
  old : ∀ k, k < w.heap.size → ρ k = 17
def EvStill (w : World) (base : Nat) (ρ : Nat → Nat) (v5 v6 v9 v10 : Value) (row acc : List Sh) (fs accK : List Int) (psA : Option Addr) (ps : List Int) : Prop :=
  Row ρ 16 Y16 w base v5 row ∧ (Kd.int .i64).R 2 w base (fun k => ρ k = 20) v6 fs ∧ Row ρ 21 Y16 w base v9 acc ∧ (Kd.int .i64).R 2 w base (fun k => ρ k = 22) v10 accK ∧ (Kd.int .i64).F w (fun k => ρ k = 17) psA ps.length ps ∧ Bl ρ 18 w base zShO ∧ ∀ k, k < base → ρ k = 17
section
variable {ρ ρ1 : Nat → Nat} {c base : Nat} {w w1 : World} {v5 v6 v9 v10 : Value} {row acc : List Sh} {fs accK ps : List Int} {psA : Option Addr}
theorem EvStill.mv (h : EvStill w base ρ v5 v6 v9 v10 row acc fs accK psA ps) (m : MvC c ρ ρ1 w w1) (hc : c ≠ 2) : EvStill w1 base ρ1 v5 v6 v9 v10 row acc fs accK psA ps := by
  have h16 : ∀ y, Y16 y → y / 8 ≠ c := fun y hy => by rw [show y = 16 from hy]; omega
  obtain ⟨h1, h2, h3, h4, h5, h6, h7⟩ := h
  exact ⟨h1.mv m (by omega) h16, R_mv h2 m (by omega), h3.mv m (by omega) h16, R_mv h4 m (by omega), F_mv h5 m (by omega), h6.mv m (by omega), fun k hk => (m.keep k (Nat.lt_trans hk (blk_lt h6.1)) (by rw [h7 k hk]; omega)).trans (h7 k hk)⟩
end
theorem EvStill.grown {ρ : Nat → Nat} {base : Nat} {w w1 : World} {v5 v6 v9 v10 : Value} {row acc : List Sh} {fs accK ps : List Int} {psA : Option Addr} (h : EvStill w base ρ v5 v6 v9 v10 row acc fs accK psA ps) (hg : w.grownBy w1 v9.ownBlock) (y : Nat) :
    Row (paint ρ w.heap.size y) 16 Y16 w1 base v5 row ∧ (Kd.int .i64).R 2 w1 base (fun k => paint ρ w.heap.size y k = 20) v6 fs ∧ (Kd.int .i64).R 2 w1 base (fun k => paint ρ w.heap.size y k = 22) v10 accK ∧ (Kd.int .i64).F w1 (fun k => paint ρ w.heap.size y k = 17) psA ps.length ps ∧ Bl (paint ρ w.heap.size y) 18 w1 base zShO ∧ ∀ k, k < base → paint ρ w.heap.size y k = 17 := by
  obtain ⟨h1, h2, h3, h4, h5, h6, h7⟩ := h
  have hne : ∀ x, x ≠ 21 → ∀ k, v9.ownBlock = some k → ρ k ≠ x := fun x hx k hk => by rw [h3.own k hk]; exact fun e => hx e.symm
  exact ⟨h1.grown hg (fun k hk => by rw [h3.own k hk]; exact ⟨by omega, by unfold Y16; omega⟩) y, R_col h2 (col_grown hg y (hne 20 (by omega))), R_col h4 (col_grown hg y (hne 22 (by omega))), F_col h5 (col_grown hg y (hne 17 (by omega))), h6.col (col_grown hg y (hne 18 (by omega))), paint_old h7 (Nat.le_of_lt (blk_lt h6.1))⟩
def Ev18A (base : Nat) (v5 v6 v9 v10 : Value) (row acc : List Sh) (fs accK : List Int) (psA : Option Addr) (ps ks : List Int) : Nat → Nat → (Nat → Value) → (Nat → Nat) → World → Prop
  | 0, 0, u, ρ, w => True
  | 0, 1, u, ρ, w => (Kd.int .i64).R 2 w base (fun k => ρ k = 0) (u 1) []
  | 0, _ + 2, u, ρ, w => (Kd.int .i64).R 2 w base (fun k => ρ k = 0) (u 9) ks
  | 1, 0, u, ρ, w => True
  | 1, _ + 1, u, ρ, w => Row ρ 8 Y16 w base (u 10) []
  | 2, _, u, ρ, w => EvStill w base ρ v5 v6 v9 v10 row acc fs accK psA ps
  | _, _, _, _, _ => True
section
variable {base : Nat} {v5 v6 v9 v10 : Value} {row acc : List Sh} {fs accK ps ks : List Int} {psA : Option Addr}
theorem Ev18A.dep (c p : Nat) (u : Nat → Value) (i : Nat) (v : Value) (ρ : Nat → Nat) (w : World) (hi : cofT [[1, 9], [10], []] i ≠ c) (h : Ev18A base v5 v6 v9 v10 row acc fs accK psA ps ks c p u ρ w) : Ev18A base v5 v6 v9 v10 row acc fs accK psA ps ks c p (updv u i v) ρ w := by
  have far : ∀ j, cofT [[1, 9], [10], []] j = c → updv u i v j = u j := fun j hj => if_neg (fun e => hi (by rw [← e]; exact hj))
  match c, p, h with
  | 0, 0, h => exact h
  | 0, 1, h => simp only [Ev18A, far 1 (by rfl)]; exact h
  | 0, p + 2, h => simp only [Ev18A, far 9 (by rfl)]; exact h
  | 1, 0, h => exact h
  | 1, p + 1, h => simp only [Ev18A, far 10 (by rfl)]; exact h
  | 2, _, h => exact h
  | c + 3, _, h => exact trivial
theorem Ev18A.still (c c' p : Nat) (u : Nat → Value) (ρ ρ1 : Nat → Nat) (w w1 : World) (hc : c ≠ c') (hn : [[1, 9], [10], []].getD c' [] ≠ []) (m : MvC c' ρ ρ1 w w1) (h : Ev18A base v5 v6 v9 v10 row acc fs accK psA ps ks c p u ρ w) : Ev18A base v5 v6 v9 v10 row acc fs accK psA ps ks c p u ρ1 w1 := by
  have hc2 : c' ≠ 2 := fun e => by subst e; exact hn rfl
  have h16 : ∀ y, Y16 y → y / 8 ≠ c' := fun y hy => by rw [show y = 16 from hy]; omega
  match c, p, h with
  | 0, 0, h => exact trivial
  | 0, 1, h => exact R_mv h m (by omega)
  | 0, p + 2, h => exact R_mv h m (by omega)
  | 1, 0, h => exact trivial
  | 1, p + 1, h => exact Row.mv h m (by omega) h16
  | 2, _, h => exact EvStill.mv h m hc2
  | c + 3, _, h => exact trivial
end
def fade2 (ρ : Nat → Nat) (k : Nat) : Nat := if ρ k = 0 ∨ ρ k = 8 ∨ ρ k = 9 then 16 else ρ k
theorem fade2_keep {ρ : Nat → Nat} {k x : Nat} (h : ρ k = x) (hx : 16 ≤ x) : fade2 ρ k = x := by unfold fade2; rw [if_neg (by omega), h]
theorem fade2_old {ρ : Nat → Nat} {b : Nat} (h : ∀ k, k < b → ρ k = 17) : ∀ k, k < b → fade2 ρ k = 17 := fun k hk => fade2_keep (h k hk) (by omega)
theorem fade2_16 {ρ : Nat → Nat} {k : Nat} (h : ρ k = 16 ∨ ρ k = 0 ∨ ρ k = 8 ∨ ρ k = 9) : Y16 (fade2 ρ k) := by
  unfold fade2 Y16
  rcases h with h | h
  · rw [if_neg (by omega), h]
  · rw [if_pos h]
theorem lenV_slice (A : Option Addr) (n c : Nat) : lenV (.slice A n c) = n := rfl
theorem evenUp_more {b f : Nat} {row : List Sh} {fs : List Int} (h : 1 < row.length) (hf : row.length ≤ f + 1) : ∃ f1, f = f1 + 1 ∧ evenUp b f row fs = evenUp b f1 (upRow row fs 0 (partsN row.length b)) (upKey fs 0 (partsN row.length b)) := by
  obtain ⟨f1, rfl⟩ : ∃ f1, f = f1 + 1 := ⟨f - 1, by omega⟩
  exact ⟨f1, rfl, by rw [evenUp, if_pos h]⟩
theorem evenUp_done {b : Nat} : ∀ {f : Nat} {row : List Sh} {fs : List Int}, ¬ 1 < row.length → evenUp b f row fs = row.headD zSh
  | 0, _, _, _ => rfl
  | f + 1, row, fs, h => by rw [evenUp, if_neg h]
end Go.Proofs.YtelmidpepojbdaaGreat.Tower
namespace Go.Proofs.YtelmidpepojbdaaGreat.Tower
open Go Go.RowKit Go.Proofs.YtelmidpepojbdaaGreatW.PrintWords Go.Proofs.YtelmidpepojbdaaGreatW.PrintLast Go.Proofs.YtelmidpepojbdaaGreatW.PrintMore Go.Proofs.YtelmidpepojbdaaGreat.Own Go.Proofs.YtelmidpepojbdaaGreat.PMendRight
set_option linter.unusedVariables false
set_option linter.unusedSimpArgs false
def TEv8 : Bool × List (List Nat × List Nat) := (true, [([], []), ([], []), ([], []), ([], []), ([2, 3], [2, 3]), ([1, 4], [1, 4]), ([5], [5]), ([6], [6]), ([0, 7, 5], [0, 7]), ([], []), ([], []), ([10], [10]), ([11], [11]), ([12], [12]), ([13], [13]), ([9, 14, 8], [9, 14]), ([8, 15, 0, 1, 2, 3, 4, 5, 6, 7, 8], [0, 8]), ([15, 16, 0, 1, 2, 3, 4, 5, 6, 7, 8, 9, 10, 11, 12, 13, 14, 15, 16], [9, 15])])
def BEv8 : List Nat := [0, 0, 0, 0, 12, 30, 62, 126, 255, 0, 0, 1024, 3072, 7168, 15360, 32767, 65535, 131071]
theorem tabEv8 : rtab .any (opsOf Tryz.f15 8) = TEv8 := by kernel_rfl
theorem bitsEv8 : waitsOk TEv8.2 BEv8 = true := by kernel_rfl
def TEv18 : Bool × List (List Nat × List Nat) := (true, [([], []), ([], []), ([], []), ([], []), ([3], [3]), ([], []), ([], []), ([5, 6], [5, 6]), ([2, 4, 7], [2, 4, 7]), ([1, 8], [1, 8]), ([], []), ([], []), ([], []), ([], []), ([], []), ([13, 14], [13, 14]), ([11, 12, 15], [11, 12, 15]), ([10, 16, 9], [10, 16]), ([9, 17], [9, 17]), ([18], [18]), ([0, 19, 17], [0, 19]), ([20, 20, 0, 1, 2, 3, 4, 5, 6, 7, 8, 9, 10, 11, 12, 13, 14, 15, 16, 17, 18, 19, 20], [0, 20])])
def BEv18 : List Nat := [0, 0, 0, 0, 8, 0, 0, 96, 252, 510, 0, 0, 0, 0, 0, 24576, 63488, 131070, 262142, 524286, 1048575, 2097151]
theorem tabEv18 : rtab .any (opsOf Tryz.f15 18) = TEv18 := by kernel_rfl
theorem bitsEv18 : waitsOk TEv18.2 BEv18 = true := by kernel_rfl
theorem hiI : Tryz.prog.info? 2 = some ((Tryz.prog.info? 2).get (by kernel_rfl)) := by kernel_rfl
theorem hiS : Tryz.prog.info? 29 = some ((Tryz.prog.info? 29).get (by kernel_rfl)) := by kernel_rfl
theorem hiP : Tryz.prog.info? 106 = some ((Tryz.prog.info? 106).get (by kernel_rfl)) := by kernel_rfl
set_option maxHeartbeats 4000000 in
set_option maxRecDepth 100000 in
theorem even_calls (A : Option Addr) (c : Nat) (xs : List Pr2) (b : Nat) (w : World) (hC : kP.C w A xs.length xs) (hc : xs.length ≤ c) (h60 : xs.length ≤ 60) (hp : 0 < xs.length) (hb : 3 ≤ b) (hb8 : b ≤ 8) :
    Calls Tryz.prog 15 #[.slice A xs.length c, .int .i64 b] w fun e w1 => ∃ cs, e = .returned (.agg cs.toArray) ∧ kSh.FK w1 (fun k => w.heap.size ≤ k) (evenT xs b) cs ∧ Below w.heap.size w w1 := by
  have HP := Aside0.mk (parts_f xs.length b h60 hb hb8)
  obtain ⟨g1, g2, _, g4, _⟩ := parts_good xs.length b h60 hb hb8
  have HC := Aside0.mk hC
  have HCC := Aside0.mk hc
  have H60 := Aside0.mk h60
  have HP0 := Aside0.mk hp
  have HG1 := Aside0.mk g1
  have HG2 := Aside0.mk g2
  have HG4 := Aside0.mk g4
  have d1 : decide ((xs.length : Int) = 0) = false := decide_eq_false (by omega)
  have d2 : ((xs.length : Int) == 0) = false := by rw [beq_eq_false_iff_ne]; omega
  clear hC hc g1 g2 g4
  go_enter Tryz.func15, Tryz.ntmps15
  go_upto_region 5 with fail
  have HX0 := Aside0.mk (blk_new w (.cells #[.bool false, .bool false, .slice none 0 0, .slice none 0 0, .slice none 0 0] 29))
  have HB0 := Aside0.mk (below_alloc (Below.refl w.heap.size w) (.cells #[.bool false, .bool false, .slice none 0 0, .slice none 0 0, .slice none 0 0] 29))
  generalize w.alloc (.cells #[.bool false, .bool false, .slice none 0 0, .slice none 0 0, .slice none 0 0] 29) = w1 at HX0 HB0 ⊢
  go_wp2_with (go_at_call 70; refine (boscagelaw11_Parts.calls 300 _ _ _ _ HP.out).mono ?_; rintro e w2 ⟨vp, rfl, hv, hb2⟩; obtain ⟨pA, pc, rfl⟩ := Kd.R_slice hv; have VP := Aside0.mk hv; have B2 := Aside0.mk hb2; clear hv hb2)
  have HPL := Aside0.mk (show ((partsN xs.length b).map Int.ofNat).length = (partsN xs.length b).length from List.length_map _)
  generalize hps : (partsN xs.length b).map Int.ofNat = ps at VP HPL
  have HPS := Aside0.mk hps
  generalize hns : partsN xs.length b = ns0 at HPL HPS HG1 HG2 HG4 ⊢
  have HNS := Aside0.mk hns
  try rw [← HPL.out]
  clear hps hns
  obtain ⟨R0, hR0⟩ : ∃ R0, leafRow xs ns0 = R0 := ⟨_, rfl⟩
  obtain ⟨K0, hK0⟩ : ∃ K0, leafKey xs ns0 = K0 := ⟨_, rfl⟩
  have HR0 := Aside0.mk hR0
  have HK0 := Aside0.mk hK0
  clear hR0 hK0
  have HE0 : Aside0 (Ev1 w pA ps R0 K0 (.slice A xs.length c) (.slice none 0 0) (.slice none 0 0) (.int .i64 0) w2 (fun k => if k = w.heap.size then 18 else 17) A c xs ns0 [] []) := ⟨{
    e0 := rfl
    e23 := rfl
    cap := HCC.out
    lC := HC.out
    l60 := H60.out
    sum := HG1.out
    pos := fun n hn => (HG2.out n hn).1
    cnt := by rw [HPL.out]; simp
    p60 := by rw [HPL.out]; have := HG4.out; have := H60.out; omega
    told := fun j => by
      rw [← HPS.out]
      show (List.map Int.ofNat ns0).getD ((([] : List Sh).length + j : Nat) : Int).toNat 0 = _
      rw [Int.toNat_natCast, List.length_nil, Nat.zero_add, List.getD_eq_getElem?_getD, List.getElem?_map, List.getD_eq_getElem?_getD]
      cases ns0[j]? <;> rfl
    eR := HR0.out
    eK := HK0.out
    lenK := rfl
    below := below_then HB0.out HB0.out.size B2.out
    row := Row.nil _ _ _ _ _
    fs := Kd.R_nil _ _ _ _ _
    parts := Kd.F_mono (Kd.R_F (Kd.R_bound VP.out)) (fun k hk => if_neg (by have := hk.2.1; have := blk_lt HX0.out; omega))
    box := ⟨blk_below HX0.out B2.out, if_pos rfl⟩
    old := fun k hk => if_neg (by omega) }⟩
  have HEV : Aside0 (evenT xs b = evenUp b 60 R0 K0) := ⟨by unfold evenT; rw [if_neg (by have := HP0.out; omega), ← HR0.out, ← HK0.out, HNS.out]⟩
  have HPP : Aside0 (1 ≤ ps.length) := ⟨by
    rw [HPL.out]
    cases hq : ns0 with
    | nil => have h1 := HG1.out; rw [hq] at h1; have := HP0.out; simp at h1; omega
    | cons x r => simp⟩
  clear VP B2 HX0 HB0 HG1 HG2 HG4 HPS HNS HP HC HCC d1 d2 hp
  go_loopw [0, 5, 6, 23] (fun v0 v5 v6 v23 wr => ∃ ρ A c xs ns acc accK, Aside0 (Ev1 w pA ps R0 K0 v0 v5 v6 v23 wr ρ A c xs ns acc accK)) (fun _ _ _ v23 _ => ps.length - (intOf v23).toNat)
  case atStart => exact ⟨_, _, _, _, _, _, _, HE0⟩
  case round =>
    clear HE0
    obtain ⟨ρ, A, c, ys, ns, acc, accK, HE⟩ := hrel
    obtain rfl := HE.out.e0
    obtain rfl := HE.out.e23
    cases ns with
    | nil =>
      have hcnt := HE.out.cnt
      rw [List.length_nil, Nat.add_zero] at hcnt
      have d5 : decide ((acc.length : Int) < (ps.length : Int)) = false := decide_eq_false (by omega)
      have d6 : decide (acc.length < ps.length) = false := decide_eq_false (by omega)
      have H2 : Aside0 (Ev2 w b (evenT xs b) u5 u6 wr (fun k => if ρ k = 0 then 16 else if ρ k = 8 then 20 else ρ k) 60 acc accK) := ⟨by
        have hE := HE.out
        have h1 := hE.eR
        have h2 := hE.eK
        rw [leafRow, List.append_nil] at h1
        rw [leafKey, List.append_nil] at h2
        exact {
          eU := by rw [h1, h2]; exact HEV.out.symm
          lenF := hE.lenK
          pos := by have := HPP.out; omega
          l60 := by have := hE.p60; omega
          fuel := by have := hE.p60; omega
          below := hE.below
          row := hE.row.tint (fun k _ h => if_pos h) (fun k _ h => by show (if _ then _ else if _ then _ else _) = 16; rw [if_neg (by rw [show ρ k = 16 from h]; omega), if_neg (by rw [show ρ k = 16 from h]; omega)]; exact h)
          fs := R_tint hE.fs (fun k _ h => by rw [if_neg (by omega), if_pos h])
          box := hE.box.tint (fun k _ h => by rw [if_neg (by omega), if_neg (by omega), h])
          old := fun k hk => by have h := hE.old k hk; rw [if_neg (by omega), if_neg (by omega), h] }⟩
      clear HE hcnt
      go_wp2_with fail
      go_loopw [5, 6] (fun v5 v6 wr => ∃ ρ f row fs, Aside0 (Ev2 w b (evenT xs b) v5 v6 wr ρ f row fs)) (fun v5 _ _ => lenV v5)
      case atStart => exact ⟨_, _, _, _, H2⟩
      case round =>
        clear H2 d5 d6
        obtain ⟨ρ, f, row, fs, HE⟩ := hrel
        obtain ⟨A5, c5, h5⟩ := Kd.N_slice HE.out.row.row
        obtain ⟨A6, c6, h6⟩ := Kd.R_slice HE.out.fs
        obtain rfl := h5
        obtain rfl := h6
        by_cases hlt : 1 < row.length
        · have d7 : decide ((row.length : Int) > 1) = true := decide_eq_true (by omega)
          have d8 : decide (1 < row.length) = true := decide_eq_true hlt
          have hl60 := HE.out.l60
          obtain ⟨f1, hf1, hU⟩ := evenUp_more (b := b) (fs := fs) hlt HE.out.fuel
          have HP2 := Aside0.mk (parts_f row.length b hl60 hb hb8)
          obtain ⟨g1, g2, g3, g4, _⟩ := parts_good row.length b hl60 hb hb8
          have HG1 := Aside0.mk g1
          have HG2 := Aside0.mk g2
          have HG3 := Aside0.mk (g3 hlt)
          have HU2 := Aside0.mk hU
          have HF1 := Aside0.mk hf1
          have HLT := Aside0.mk hlt
          have HL60 := Aside0.mk hl60
          clear g1 g2 g3 g4 hU hf1 hlt hl60
          go_wp2_with (go_at_call 70; refine (boscagelaw11_Parts.calls 300 _ _ _ _ HP2.out).mono ?_; rintro e w2 ⟨vp, rfl, hv, hb2⟩; obtain ⟨pA, pc, rfl⟩ := Kd.R_slice hv; have VP := Aside0.mk hv; have B2 := Aside0.mk hb2; clear hv hb2)
          have HPL2 := Aside0.mk (show ((partsN row.length b).map Int.ofNat).length = (partsN row.length b).length from List.length_map _)
          generalize hps : (partsN row.length b).map Int.ofNat = ps2 at VP HPL2 ⊢
          have HPS2 := Aside0.mk hps
          generalize hns : partsN row.length b = ns2 at HPL2 HPS2 HG1 HG2 HG3 HU2 ⊢
          rw [← HPL2.out]
          obtain ⟨U0, hU0⟩ : ∃ U0, upRow row fs 0 ns2 = U0 := ⟨_, rfl⟩
          obtain ⟨K1, hK1⟩ : ∃ K1, upKey fs 0 ns2 = K1 := ⟨_, rfl⟩
          have HEU : Aside0 (evenUp b f1 U0 K1 = evenT xs b) := ⟨by rw [← hU0, ← hK1, ← HU2.out]; exact HE.out.eU⟩
          have HE3 : Aside0 (Ev3 w row fs (.slice A5 row.length c5) (.slice A6 fs.length c6) pA ps2 U0 K1 (.slice none 0 0) (.slice none 0 0) (.int .i64 0) (.int .i64 0) w2 (paint ρ wr.heap.size 17) 0 ns2 [] []) := ⟨{
            e11 := rfl
            e55 := rfl
            sum := by rw [HG1.out]; omega
            pos := fun n hn => (HG2.out n hn).1
            cnt := by rw [HPL2.out]; simp
            p60 := by rw [HPL2.out]; have := HG3.out; have := HL60.out; omega
            told := fun j => by
              rw [← HPS2.out]
              show (List.map Int.ofNat ns2).getD ((([] : List Sh).length + j : Nat) : Int).toNat 0 = _
              rw [Int.toNat_natCast, List.length_nil, Nat.zero_add, List.getD_eq_getElem?_getD, List.getElem?_map, List.getD_eq_getElem?_getD]
              cases ns2[j]? <;> rfl
            eR := hU0
            eK := hK1
            lenK := rfl
            below := below_then HE.out.below HE.out.below.size B2.out
            row := HE.out.row.col (fun k hk _ => ⟨B2.out.block k hk, if_pos hk⟩)
            fs := R_col HE.out.fs (col_below B2.out 17)
            up := Row.nil _ _ _ _ _
            ks := Kd.R_nil _ _ _ _ _
            parts := Kd.R_F (R_new VP.out 17)
            box := HE.out.box.col (col_below B2.out 17)
            old := paint_old HE.out.old HE.out.below.size }⟩
          have HLF := Aside0.mk HE.out.lenF
          have HN2 := Aside0.mk HPL2.out
          have HS2 := Aside0.mk HG1.out
          have HFU := Aside0.mk HE.out.fuel
          clear VP B2 HPS2 HPL2 HG1 HG2 HU2 hU0 hK1 hps hns HE HP2
          go_loopw [9, 10, 11, 55] (fun v9 v10 v11 v55 wr => ∃ ρ i ns acc accK, Aside0 (Ev3 w row fs (.slice A5 row.length c5) (.slice A6 fs.length c6) pA ps2 U0 K1 v9 v10 v11 v55 wr ρ i ns acc accK)) (fun _ _ _ v55 _ => ps2.length - (intOf v55).toNat)
          case atStart => exact ⟨_, _, _, _, _, HE3⟩
          case round =>
            clear HE3
            obtain ⟨ρ, i, ns, acc3, accK3, HE⟩ := hrel
            obtain rfl := HE.out.e11
            obtain rfl := HE.out.e55
            cases ns with
            | nil =>
              have hcnt := HE.out.cnt
              rw [List.length_nil, Nat.add_zero] at hcnt
              have d5 : decide ((acc3.length : Int) < (ps2.length : Int)) = false := decide_eq_false (by omega)
              have d6 : decide (acc3.length < ps2.length) = false := decide_eq_false (by omega)
              obtain ⟨A9, c9, h9⟩ := Kd.N_slice HE.out.up.row
              obtain rfl := h9
              have HCNT := Aside0.mk hcnt
              clear hcnt
              go_wp2_with fail
              go_round
              case rel =>
                refine ⟨fun k => if ρ k = 21 then 16 else if ρ k = 22 then 20 else ρ k, f1, acc3, accK3, ⟨?_⟩⟩
                have hE := HE.out
                have h1 := hE.eR
                have h2 := hE.eK
                rw [upRow, List.append_nil] at h1
                rw [upKey, List.append_nil] at h2
                have hcnt := HCNT.out
                have hn2 := HN2.out
                have hg3 := HG3.out
                exact {
                  eU := by rw [h1, h2]; exact HEU.out
                  lenF := hE.lenK
                  pos := by
                    cases ns2 with
                    | nil => have h3 : ([] : List Nat).sum = row.length := HS2.out; rw [List.sum_nil] at h3; have := HLT.out; omega
                    | cons x r => rw [List.length_cons] at hn2; omega
                  l60 := by have := HL60.out; omega
                  fuel := by have := HFU.out; have := HF1.out; omega
                  below := hE.below
                  row := hE.up.tint (fun k _ h => if_pos h) (fun k _ h => by show (if _ then _ else if _ then _ else _) = 16; rw [if_neg (by rw [show ρ k = 16 from h]; omega), if_neg (by rw [show ρ k = 16 from h]; omega)]; exact h)
                  fs := R_tint hE.ks (fun k _ h => by rw [if_neg (by omega), if_pos h])
                  box := hE.box.tint (fun k _ h => by rw [if_neg (by omega), if_neg (by omega), h])
                  old := fun k hk => by have h := hE.old k hk; rw [if_neg (by omega), if_neg (by omega), h] }
              case measure => have := HCNT.out; have := HN2.out; have := HG3.out; rw [lenV_slice, lenV_slice]; omega
            | cons n ns =>
              have hcnt := HE.out.cnt
              rw [List.length_cons] at hcnt
              have hsum := HE.out.sum
              rw [List.sum_cons] at hsum
              have hn1 := HE.out.pos n List.mem_cons_self
              have d5 : decide ((acc3.length : Int) < (ps2.length : Int)) = true := decide_eq_true (by omega)
              have d6 : decide (acc3.length < ps2.length) = true := decide_eq_true (by omega)
              have hpC := Kd.F_now HE.out.parts
              obtain ⟨ap, rfl⟩ : ∃ ap, pA = some ap := by
                obtain ⟨ap, h, _⟩ := hpC.2.2 (by omega)
                exact ⟨ap, h⟩
              have hpn := Kd.foot_int hpC (acc3.length : Int) (by omega) (by omega)
              have htold := HE.out.told 0
              rw [Nat.add_zero, List.getD_cons_zero] at htold
              rw [htold, Int.toNat_natCast] at hpn
              have p0 : (0 : Int) ≤ (acc3.length : Int) := by omega
              have p1 : (acc3.length : Int) < (ps2.length : Int) := by omega
              have HCNT := Aside0.mk hcnt
              have HSUM := Aside0.mk hsum
              have HN1 := Aside0.mk hn1
              clear hpC htold hcnt hsum hn1
              go_upto_region 18 with fail
              have hE := HE.out
              have h1i : (i : Int) + 1 ≤ (i : Int) + (n : Int) := by have := HN1.out; omega
              have h2i : (i : Int) + (n : Int) ≤ (fs.length : Int) := by have := HSUM.out; have := HLF.out; omega
              have h3i : (i : Int) + (n : Int) ≤ (row.length : Int) := by have := HSUM.out; omega
              have h0i : (0 : Int) ≤ (i : Int) := by omega
              have h01 : (0 : Int) ≤ (i : Int) + 1 := by omega
              have h0n : (i : Int) ≤ (i : Int) + (n : Int) := by omega
              have HCF := Aside0.mk (Kd.R_reads' hE.fs)
              have HCR := Aside0.mk (Kd.N_reads' hE.row.row)
              have hq1 := cut_mid 22 2 .i64 .i64 Tryz.underlying22 hiI 1 rfl A6 fs.length c6 ((i : Int) + 1) ((i : Int) + (n : Int)) h01 h1i h2i HCF.out.2.1
              have hq2 := cut_mid 27 29 .i64 .i64 Tryz.underlying27 hiS 5 rfl A5 row.length c5 (i : Int) ((i : Int) + (n : Int)) h0i h0n h3i HCR.out.2.1
              rw [show ((i : Int) + 1).toNat = i + 1 by omega, show ((i : Int) + (n : Int)).toNat = i + n by omega] at hq1
              rw [show ((i : Int) + (n : Int)).toNat = i + n by omega, Int.toNat_natCast, show i + n - i = n by omega] at hq2
              obtain ⟨B6, hB6⟩ : ∃ B6, B6 = (if c6 = i + 1 then A6 else A6.map (·.add ((i + 1) * 1))) := ⟨_, rfl⟩
              obtain ⟨B5, hB5⟩ : ∃ B5, B5 = (if c5 = i then A5 else A5.map (·.add (i * 5))) := ⟨_, rfl⟩
              rw [← hB6] at hq1
              rw [← hB5] at hq2
              have HB6 := Aside0.mk hB6
              have HB5 := Aside0.mk hB5
              clear hB6 hB5
              have hw1 : IntKind.i64.wrap ((i : Int) + 1) = (i : Int) + 1 := by rw [i64_w, wrap_succ i (by have := HSUM.out; have := HL60.out; omega)]; omega
              have hw2 : IntKind.i64.wrap ((i : Int) + (n : Int)) = (i : Int) + (n : Int) := wrap_add i n (by have := HSUM.out; have := HL60.out; omega)
              have HI60 : Aside0 (i + n ≤ 60) := ⟨by have := HSUM.out; have := HL60.out; omega⟩
              have HA60 : Aside0 (acc3.length + 1 ≤ 60) := ⟨by have := HCNT.out; have := hE.p60; omega⟩
              have HSt : Aside0 (EvStill wr w.heap.size ρ (.slice A5 row.length c5) (.slice A6 fs.length c6) u9 u10 row acc3 fs accK3 (some ap) ps2) := ⟨⟨hE.row, hE.fs, hE.up, hE.ks, hE.parts, hE.box, hE.old⟩⟩
              have HBl := Aside0.mk hE.below
              have HLK := Aside0.mk hE.lenK
              clear d5 d6 hpn p0 p1 hE
              refine ordStart (n := 22) (S := fun w' => True) (ds := []) (by kernel_rfl) rfl tabEv18 bitsEv18 trivial (fun hHeld HT_ HW_ => ?_)
              refine ord_ [(0, some 59), (2, some 61), (3, some 62), (4, some 63), (5, some 64), (6, some 65), (7, some 66), (8, some 67), (11, some 70), (12, some 71), (13, some 72), (14, some 73), (15, some 74), (16, some 75)] ?_
              iterate 14 (refine ordP (v := ?_) (a' := ?_) HT_ (by kernel_rfl) rfl rfl (fun _ _ _ h => h) (Or.inl ⟨by rfl, ?_⟩) ?_ ?_; rotate_left; (intro w'; go_simp; with_reducible rfl); rotate_left; (simp only [Act.put, p1_, p2_, p3_, i64_w, i32_w]; rfl))
              refine ordNil ?_
              have HSd := Aside0.mk (HSt.out.mv (c := 7) (ρ1 := ρ) (w1 := wr.drew) ⟨Nat.le_refl _, fun k _ _ => rfl, fun _ _ _ => rfl⟩ (by omega))
              have HBd := Aside0.mk (below_drew HBl.out)
              clear hHeld
              generalize wr.drew = wd at HSd HBd ⊢
              have HML : Aside0 (((fs.take (i + n)).drop (i + 1)).length = i + n - (i + 1)) := ⟨by rw [List.length_drop, List.length_take, Nat.min_eq_left (by omega)]⟩
              have HMR : Aside0 (((row.take (i + n)).drop i).length = n) := ⟨by rw [List.length_drop, List.length_take, Nat.min_eq_left (by omega)]; omega⟩
              have HIF : Aside0 (i + 1 ≤ i + n ∧ i + n ≤ fs.length ∧ i + n ≤ row.length) := ⟨by omega⟩
              refine chainsP_ HT_.out [[1, 9], [10], []] [17, 18, 19, 20, 21] [(60, 1), (68, 9), (69, 10)] #[Y_,Y_,Y_,Y_,Y_,Y_,Y_,Y_,Y_,Y_,Y_,Y_,Y_,Y_,Y_,Y_,Y_,N_,N_,N_,N_,N_] (by kernel_rfl) (by kernel_rfl) (fun w' => Below w.heap.size w w') (Ev18A w.heap.size (.slice A5 row.length c5) (.slice A6 fs.length c6) u9 u10 row acc3 fs accK3 (some ap) ps2 ((fs.take (i + n)).drop (i + 1))) (fun w' h => trivial) ρ HBd.out ?_ Ev18A.dep Ev18A.still ?_ ?_
              · intro q hq u
                match q, hq with
                | 0, _ => exact trivial
                | 1, _ => exact trivial
                | 2, _ => exact HSd.out
              · intro q p hq hp u ρ w' hb hstill hA
                have hsz := hb.size
                match q, hq, p, hp, hA with
                | 0, _, 0, _, hA =>
                  refine cstep_ (i := 1) (s := 60) (a1 := ?_) rfl rfl rfl rfl ?_ ?_
                  rotate_left; · simp only [puts, Act.put, u1_, u2_, u3_]; rfl
                  intro K hK
                  refine value_ (v := .slice (some ⟨w'.heap.size, 0, none⟩) 0 0) (w1 := w'.alloc (.cells #[] 2)) (by rfl) rfl (by go_simp) ?_
                  exact hK.out _ (paint ρ w'.heap.size 0) _ (below_alloc hb _) (MvC.alloc _) (R_none _ _ _ _ hsz _ _)
                | 0, _, 1, _, hA =>
                  have hfs := (hstill 2 (by simp) rfl).2.1
                  have hC6 : (Kd.int .i64).C w' B6 (i + n - (i + 1)) ((fs.take (i + n)).drop (i + 1)) := by
                    rw [← HML.out, HB6.out]
                    exact Kd.F_now (Kd.F_mid (Kd.R_F hfs) HIF.out.1 HIF.out.2.1 (Kd.R_reads' hfs).2.1)
                  refine cstep_ (i := 9) (s := 68) (a1 := ?_) rfl rfl rfl rfl ?_ ?_
                  rotate_left; · simp only [puts, Act.put, u1_, u2_, u3_]; rfl
                  intro K hK
                  refine Kd.R_append_rows_step (Kd.int .i64) (w0 := w) w.heap.size (by rfl) (.tmp 60) (.tmp 67) 22 2 (.int .i64 0) 8 rfl Tryz.underlying22 info2 rfl (by decide) (by omega) (u 1) [] ((fs.take (i + n)).drop (i + 1)) B6 (i + n - (i + 1)) (c6 - (i + 1)) (fun k => paint ρ w'.heap.size 0 k = 0) (fun _ => False) (by rfl) (by rfl) (R_tint hA (fun k hk h => (if_pos hk).trans h)) hC6 (fun x cs h => h) (fun _ hk => hk.elim) (fun k hk => if_neg (by omega)) hb hsz (by have := HI60.out; rw [List.length_nil]; omega) ?_
                  intro v1 w1 hR hb1 hg hat
                  exact hK.out v1 (paint ρ w'.heap.size 0) w1 hb1 (MvC.grown hg (fun k hk => by rw [hA.1 k hk])) (by rw [List.nil_append] at hR; exact hR)
                | 0, _, p + 2, hp, _ => exact absurd hp (by simp)
                | 1, _, 0, _, hA =>
                  refine cstep_ (i := 10) (s := 69) (a1 := ?_) rfl rfl rfl rfl ?_ ?_
                  rotate_left; · simp only [puts, Act.put, u1_, u2_, u3_]; rfl
                  intro K hK
                  refine value_ (v := .slice (some ⟨w'.heap.size, 0, none⟩) 0 0) (w1 := w'.alloc (.cells #[] 29)) (by rfl) rfl (by go_simp) ?_
                  exact hK.out _ (paint ρ w'.heap.size 8) _ (below_alloc hb _) (MvC.alloc _) ⟨Kd.N_mono (Kd.R_N (R_none kSh _ _ _ hsz ρ 8)) (fun k hk => .inl hk), (R_none kSh 29 _ _ hsz ρ 8).1⟩
                | 1, _, p + 1, hp, _ => exact absurd hp (by simp)
                | 2, _, p, hp, _ => exact absurd hp (by simp)
                | q + 3, hq, _, _, _ => exact absurd hq (by simp)
              · intro u ρ w' hb hA
                have h0 := hA 0 (by simp)
                have h1 := hA 1 (by simp)
                have h2 := hA 2 (by simp)
                clear hA
                have hsz := hb.size
                have h0' : (Kd.int .i64).R 2 w' w.heap.size (fun k => ρ k = 0) (u 9) ((fs.take (i + n)).drop (i + 1)) := h0
                have h1' : Row ρ 8 Y16 w' w.heap.size (u 10) [] := h1
                have h2' : EvStill w' w.heap.size ρ (.slice A5 row.length c5) (.slice A6 fs.length c6) u9 u10 row acc3 fs accK3 (some ap) ps2 := h2
                clear h0 h1 h2
                refine norm_ (a' := ?_) ?_ ?_
                rotate_left; · simp only [puts, Act.put, u1_, u2_, u3_]; rfl
                have hCR : kSh.F w' (fun k => ρ k = 16 ∧ k < w'.heap.size) B5 n ((row.take (i + n)).drop i) := by
                  have h := Kd.F_mid (Kd.N_F h2'.1.row) (lo := i) (hi := i + n) (by omega) HIF.out.2.2 (Kd.N_reads' h2'.1.row).2.1
                  rw [HMR.out] at h
                  rw [HB5.out]
                  exact Kd.F_mono (Kd.F_bound h) (fun k hk => ⟨hk.1.elim id (fun h => h), hk.2⟩)
                refine ordOne (i := 17) (some 76) HT_ (by kernel_rfl) rfl rfl (by decide) (fun K_ hK => ?_)
                refine Kd.N_append_rows_step kSh (w0 := w) w.heap.size (by rfl) (.tmp 69) (.tmp 75) 27 29 (.agg #[(.bool false), (.bool false), (.slice none 0 0), (.slice none 0 0), (.slice none 0 0)]) 80 rfl Tryz.underlying27 info29 rfl (by decide) (by omega) (u 10) [] ((row.take (i + n)).drop i) B5 n (c5 - i) (fun k => paint ρ w'.heap.size 8 k = 8 ∨ Y16 (paint ρ w'.heap.size 8 k)) (fun k => ρ k = 16 ∧ k < w'.heap.size) (by rfl) (by rfl)
                  (Kd.N_mono (Kd.N_bound h1'.row) (fun k hk => by rw [show paint ρ w'.heap.size 8 k = ρ k from if_pos hk.2]; exact hk.1)) hCR
                  (fun k hk => ⟨.inr ((if_pos hk.2).trans hk.1), fun e => by have := h1'.own k e.symm; have := hk.1; omega⟩) (fun k hk => .inl (if_neg (by omega))) hb hsz (by have := HI60.out; rw [List.length_nil]; omega) ?_
                intro v17 w17 hN hb17 hg17 hat17
                refine hK.out _ _ trivial (fun hHeld => ?_)
                clear hK K_ hCR
                rw [List.nil_append] at hN
                have m17 : MvC 1 ρ (paint ρ w'.heap.size 8) w' w17 := MvC.grown hg17 (fun k hk => by rw [h1'.own k hk])
                have r17 : Row (paint ρ w'.heap.size 8) 8 Y16 w17 w.heap.size v17 ((row.take (i + n)).drop i) := ⟨hN, own_paint hat17 h1'.own (Kd.N_lt h1'.row)⟩
                have k17 := R_mv h0' m17 (by omega)
                have s17 := h2'.mv m17 (by omega)
                generalize paint ρ w'.heap.size 8 = ρ1 at r17 k17 s17
                clear m17 hN hg17 hat17 h0' h1' h2' hb hsz hHeld
                obtain ⟨A0, c0, e0⟩ := Kd.R_slice k17
                obtain ⟨A17, c17, e17⟩ := Kd.N_slice r17.row
                rw [e0] at k17 ⊢
                subst e17
                clear e0
                generalize hrows : (row.take (i + n)).drop i = rows at r17 ⊢
                generalize hks : (fs.take (i + n)).drop (i + 1) = ks at k17 ⊢
                have HROWS := Aside0.mk hrows
                have HKS := Aside0.mk hks
                clear hrows hks
                refine norm_ (a' := ?_) ?_ ?_
                rotate_left; · show Act.put _ (some 76) _ = _; simp only [Act.put, p1_, p2_, p3_, i64_w, i32_w]; rfl
                refine ord_ [(18, some 77)] ?_
                (refine ordP (v := ?_) (a' := ?_) HT_ (by kernel_rfl) rfl rfl (fun _ _ _ h => h) (Or.inl ⟨by rfl, ?_⟩) ?_ ?_; rotate_left; (intro w'; go_simp; with_reducible rfl); rotate_left; (simp only [Act.put, p1_, p2_, p3_, i64_w, i32_w]; rfl))
                refine ordNil ?_
                refine ordOne (i := 19) (some 78) HT_ (by kernel_rfl) rfl rfl (by decide) (fun K_ hK => ?_)
                refine value_ (v := .slice (some ⟨w17.heap.size, 0, none⟩) 1 1) (w1 := w17.alloc (.cells #[.bool false, .bool false, .slice none 0 0, .slice A0 ks.length c0, .slice A17 rows.length c17] 29)) (by rfl) rfl (by go_simp) ?_
                refine hK.out _ _ trivial (fun hHeld => ?_)
                clear hK K_
                have r19 := r17.allocd (.cells #[.bool false, .bool false, .slice none 0 0, .slice A0 ks.length c0, .slice A17 rows.length c17] 29) 9
                have k19 := R_col k17 (col_alloc (.cells #[.bool false, .bool false, .slice none 0 0, .slice A0 ks.length c0, .slice A17 rows.length c17] 29) 9)
                have s19 := s17.mv (MvC.alloc (c := 1) (x := 9) (.cells #[.bool false, .bool false, .slice none 0 0, .slice A0 ks.length c0, .slice A17 rows.length c17] 29)) (by omega)
                have b19 := Bl.new ρ1 9 w17 (.cells #[.bool false, .bool false, .slice none 0 0, .slice A0 ks.length c0, .slice A17 rows.length c17] 29 (0, 0))
                have hb19 := below_alloc hb17 (.cells #[.bool false, .bool false, .slice none 0 0, .slice A0 ks.length c0, .slice A17 rows.length c17] 29)
                clear hHeld r17 k17 s17 hb17
                generalize paint ρ1 w17.heap.size 9 = ρ2 at r19 k19 s19 b19
                generalize w17.alloc (.cells #[.bool false, .bool false, .slice none 0 0, .slice A0 ks.length c0, .slice A17 rows.length c17] 29) = w19 at r19 k19 s19 b19 hb19 ⊢
                generalize w17.heap.size = g at b19 ⊢
                refine norm_ (a' := ?_) ?_ ?_
                rotate_left; · show Act.put _ (some 78) _ = _; simp only [Act.put, p1_, p2_, p3_, i64_w, i32_w]; rfl
                refine ordOne (i := 20) (some 79) HT_ (by kernel_rfl) rfl rfl (by decide) (fun K_ hK => ?_)
                have hlt := blk_lt b19.1
                have hsz := hb19.size
                have hfk : kSh.FK w19 (fun k => (ρ2 k = 16 ∨ ρ2 k = 0 ∨ ρ2 k = 8) ∧ k < w19.heap.size) (⟨false, false, [], ks, rows⟩ : Sh) [.bool false, .bool false, .slice none 0 0, .slice A0 ks.length c0, .slice A17 rows.length c17] :=
                  k29_mkF w19 _ ⟨false, false, [], ks, rows⟩ (Nat.le_refl _) (Kd.F_nil _ _ _) (Kd.R_reads' k19).2.1 (Kd.F_mono (Kd.F_bound (Kd.R_F k19)) (fun k hk => ⟨.inr (.inl hk.1), hk.2⟩)) (Kd.N_reads' r19.row).2.1 (Kd.F_mono (Kd.F_bound (Kd.N_F r19.row)) (fun k hk => ⟨hk.1.elim (fun h => .inr (.inr h)) (fun h => .inl h), hk.2⟩))
                refine Kd.N_append_rows_step kSh (w0 := w) w.heap.size (by rfl) (.tmp 59) (.tmp 78) 27 29 (.agg #[(.bool false), (.bool false), (.slice none 0 0), (.slice none 0 0), (.slice none 0 0)]) 80 rfl Tryz.underlying27 info29 rfl (by decide) (by omega) u9 acc3 [⟨false, false, [], ks, rows⟩] (some ⟨g, 0, none⟩) 1 1 (fun k => paint ρ2 w19.heap.size 21 k = 21 ∨ (paint ρ2 w19.heap.size 21 k = 16 ∨ paint ρ2 w19.heap.size 21 k = 0 ∨ paint ρ2 w19.heap.size 21 k = 8 ∨ paint ρ2 w19.heap.size 21 k = 9)) (fun k => k = g ∨ ((ρ2 k = 16 ∨ ρ2 k = 0 ∨ ρ2 k = 8) ∧ k < w19.heap.size)) (by rfl) (by rfl)
                  (Kd.N_mono (Kd.N_bound s19.2.2.1.row) (fun k hk => by rw [show paint ρ2 w19.heap.size 21 k = ρ2 k from if_pos hk.2]; exact hk.1.imp id (fun h => .inl h))) (one_F b19.1 hfk)
                  (fun k hk => by
                    rcases hk with rfl | ⟨h1, h2⟩
                    · rw [show paint ρ2 w19.heap.size 21 k = ρ2 k from if_pos hlt, b19.2]
                      exact ⟨.inr (.inr (.inr (.inr rfl))), fun e => by have := s19.2.2.1.own k e.symm; have := b19.2; omega⟩
                    · rw [show paint ρ2 w19.heap.size 21 k = ρ2 k from if_pos h2]
                      exact ⟨.inr (h1.imp id (fun h => h.imp id .inl)), fun e => by have := s19.2.2.1.own k e.symm; omega⟩)
                  (fun k hk => .inl (if_neg (by omega))) hb19 hsz (by have := HA60.out; omega) ?_
                intro v20 w20 hN2 hb20 hg20 hat20
                refine hK.out _ _ trivial (fun hHeld => ?_)
                clear hK K_
                have o20 := own_paint hat20 s19.2.2.1.own (Kd.N_lt s19.2.2.1.row)
                have u20 : Row (paint ρ2 w19.heap.size 21) 21 (fun c => c = 16 ∨ c = 0 ∨ c = 8 ∨ c = 9) w20 w.heap.size v20 (acc3 ++ [⟨false, false, [], ks, rows⟩]) := ⟨hN2, o20⟩
                obtain ⟨q1, q2, q3, q4, q5, q6⟩ := s19.grown hg20 21
                have HU3 := Aside0.mk (u20.tint (ρ1 := fade2 (paint ρ2 w19.heap.size 21)) (y := 21) (Y1 := Y16) (fun k _ h => fade2_keep h (by omega)) (fun k _ h => fade2_16 h))
                have HQ1 := Aside0.mk (q1.tint (ρ1 := fade2 (paint ρ2 w19.heap.size 21)) (y := 16) (Y1 := Y16) (fun k _ h => fade2_keep h (by omega)) (fun k _ h => fade2_16 (.inl h)))
                have HQ2 := Aside0.mk (R_tint q2 (ρ1 := fade2 (paint ρ2 w19.heap.size 21)) (y := 20) (fun k _ h => fade2_keep h (by omega)))
                have HQ3 := Aside0.mk (R_tint q3 (ρ1 := fade2 (paint ρ2 w19.heap.size 21)) (y := 22) (fun k _ h => fade2_keep h (by omega)))
                have HQ4 := Aside0.mk (F_tint q4 (ρ1 := fade2 (paint ρ2 w19.heap.size 21)) (y := 17) (fun k _ h => fade2_keep h (by omega)))
                have HQ5 := Aside0.mk (q5.tint (ρ1 := fade2 (paint ρ2 w19.heap.size 21)) (y := 18) (fun k _ h => fade2_keep h (by omega)))
                have HB20 := Aside0.mk hb20
                have HQO := Aside0.mk (fade2_old q6)
                clear u20 q1 q2 q3 q4 q5 q6 o20 hN2 hb20 hg20 hat20 hfk r19 k19 s19 b19 hb19 hlt hsz hHeld
                generalize fade2 (paint ρ2 w19.heap.size 21) = ρ3 at HU3 HQ1 HQ2 HQ3 HQ4 HQ5 HQO
                refine norm_ (a' := ?_) ?_ ?_
                rotate_left; · show Act.put _ (some 79) _ = _; simp only [Act.put, p1_, p2_, p3_, i64_w, i32_w]; rfl
                refine ord_ [(21, some 9)] ?_
                (refine ordP (v := ?_) (a' := ?_) HT_ (by kernel_rfl) rfl rfl (fun _ _ _ h => h) (Or.inl ⟨by rfl, ?_⟩) ?_ ?_; rotate_left; (intro w'; go_simp; with_reducible rfl); rotate_left; (simp only [Act.put, p1_, p2_, p3_, i64_w, i32_w]; rfl))
                refine ordNil ?_
                refine done_ (done_of HT_.out (by kernel_rfl)) ?_
                clear HT_ HW_ hq1 hq2
                obtain ⟨a6, ha6⟩ : ∃ a6, A6 = some a6 := by
                  obtain ⟨a6, h, _⟩ := (Kd.R_reads' HQ2.out).2.2.2.2 (by have := HIF.out; have := HN1.out; omega)
                  exact ⟨a6, h⟩
                subst ha6
                have hfi := Kd.foot_int (Kd.R_reads' HQ2.out).2.2 (i : Int) (by omega) (by have := HIF.out; have := HN1.out; omega)
                rw [Int.toNat_natCast] at hfi
                generalize hfk : rd fs (i : Int) = fk at hfi
                have HFK := Aside0.mk hfk
                have i0 : (0 : Int) ≤ (i : Int) := by omega
                have i1 : (i : Int) < (fs.length : Int) := by have := HIF.out; have := HN1.out; omega
                clear hfk hw1
                go_upto_region 20 with ((with_reducible refine gate_builtin (b := .append) (xs := #[.tmp 80, .tmp 85]) rfl ?_); at_builtin; refine Kd.R_append (Kd.int .i64) (w0 := w) w.heap.size rfl (.tmp 80) (.tmp 85) 22 2 (.int .i64 0) 8 rfl Tryz.underlying22 info2 rfl (by decide) (by omega) u10 accK3 fk [.int .i64 fk] (fun k => paint ρ3 w20.heap.size 22 k = 22) (fun _ => False) rfl rfl rfl (fun _ hk => hk.elim) (fun k hk => if_neg (by omega)) (R_tint HQ3.out (fun k hk h => (if_pos hk).trans h)) HB20.out HB20.out.size (by have := HA60.out; have := HLK.out; omega) ?_; intro v21 w21 hR hb21 hg21 hat21; have HR21 := Aside0.mk hR; have HB21 := Aside0.mk hb21; have HG21 := Aside0.mk hg21; clear hR hb21 hg21 hat21)
                have hne : ∀ x, x ≠ 22 → ∀ k, u10.ownBlock = some k → ρ3 k ≠ x := fun x hx k hk => by rw [HQ3.out.1 k hk]; exact fun e => hx e.symm
                have HU4 := Aside0.mk (HU3.out.grown HG21.out (fun k hk => by rw [HQ3.out.1 k hk]; exact ⟨by omega, by unfold Y16; omega⟩) 22)
                have HQ6 := Aside0.mk (HQ1.out.grown HG21.out (fun k hk => by rw [HQ3.out.1 k hk]; exact ⟨by omega, by unfold Y16; omega⟩) 22)
                have HQ7 := Aside0.mk (R_col HQ2.out (col_grown HG21.out 22 (hne 20 (by omega))))
                have HQ8 := Aside0.mk (F_col HQ4.out (col_grown HG21.out 22 (hne 17 (by omega))))
                have HQ9 := Aside0.mk (HQ5.out.col (col_grown HG21.out 22 (hne 18 (by omega))))
                have HB20L := Aside0.mk HB20.out.size
                clear HU3 HQ1 HQ2 HQ3 HQ4 HQ5 HG21 HB20 hne hfi i0 i1
                go_wp2_with fail
                go_round
                case rel =>
                  refine ⟨paint ρ3 w20.heap.size 22, i + n, ns, acc3 ++ [⟨false, false, [], ks, rows⟩], accK3 ++ [fk], ⟨?_⟩⟩
                  have hE := HE.out
                  have hcnt := HCNT.out
                  exact {
                    e11 := by rw [Int.natCast_add]
                    e55 := by rw [List.length_append, List.length_singleton, wrap_succ _ (by have := HA60.out; omega)]
                    sum := by have := HSUM.out; omega
                    pos := fun m hm => hE.pos m (List.mem_cons_of_mem _ hm)
                    cnt := by rw [List.length_append, List.length_singleton]; omega
                    p60 := hE.p60
                    told := fun j => by
                      have h := hE.told (j + 1)
                      rw [List.getD_cons_succ] at h
                      rw [List.length_append, List.length_singleton, show acc3.length + 1 + j = acc3.length + (j + 1) by omega]
                      exact h
                    eR := by have h := hE.eR; rw [upRow, HROWS.out, HKS.out] at h; rw [← h, List.append_assoc]; rfl
                    eK := by have h := hE.eK; rw [upKey, HFK.out] at h; rw [← h, List.append_assoc]; rfl
                    lenK := by rw [List.length_append, List.length_append, hE.lenK]; rfl
                    below := HB21.out
                    row := HQ6.out
                    fs := HQ7.out
                    up := HU4.out
                    ks := HR21.out
                    parts := HQ8.out
                    box := HQ9.out
                    old := paint_old HQO.out HB20L.out }
                case measure => exact meas_succ (by have := HCNT.out; omega) (by have := HA60.out; omega)
        · have d7 : decide ((row.length : Int) > 1) = false := decide_eq_false (by omega)
          have d8 : decide (1 < row.length) = false := decide_eq_false hlt
          have hp1 := HE.out.pos
          have HS := Aside0.mk ((evenUp_done (b := b) (f := f) (fs := fs) hlt).symm.trans HE.out.eU)
          obtain ⟨g5, cap5, e5, _⟩ := Kd.N_form HE.out.row.row (by omega)
          injection e5 with e5 _ _
          subst e5
          obtain ⟨cs, hcl, hfk, hcc⟩ := Kd.N_get HE.out.row.row zSh 0 (by omega) (by omega)
          obtain ⟨A2, c2, A3, c3, A4, c4, rfl, _⟩ := k29_openF hfk
          have hs0 : row.headD zSh = row.getD (0 : Int).toNat zSh := by cases row <;> rfl
          rw [← hs0, HS.out] at hfk hcc
          have HFK : Aside0 (kSh.FK wr (fun k => ρ k = 16) (evenT xs b) [.bool (evenT xs b).f0, .bool (evenT xs b).f1, .slice A2 (evenT xs b).f2.length c2, .slice A3 (evenT xs b).f3.length c3, .slice A4 (evenT xs b).f4.length c4]) := ⟨Kd.FK_mono hfk (fun k hk => hk.1.elim id (fun h => h))⟩
          have e0 := hcc 0 _ rfl
          have e1 := hcc 1 _ rfl
          have e2 := hcc 2 _ rfl
          have e3 := hcc 3 _ rfl
          have e4 := hcc 4 _ rfl
          rw [add_at] at e0 e1 e2 e3 e4
          have e0 : wr.cell? ⟨g5, 0, none⟩ = some (.bool (evenT xs b).f0) := e0
          have e1 : wr.cell? ⟨g5, 1, none⟩ = some (.bool (evenT xs b).f1) := e1
          have e2 : wr.cell? ⟨g5, 2, none⟩ = some (.slice A2 (evenT xs b).f2.length c2) := e2
          have e3 : wr.cell? ⟨g5, 3, none⟩ = some (.slice A3 (evenT xs b).f3.length c3) := e3
          have e4 : wr.cell? ⟨g5, 4, none⟩ = some (.slice A4 (evenT xs b).f4.length c4) := e4
          obtain ⟨S0, hS0⟩ : ∃ S0, S0 = evenT xs b := ⟨_, rfl⟩
          rw [← hS0] at HFK e0 e1 e2 e3 e4
          have HS0 := Aside0.mk hS0
          clear hS0
          have HBX := Aside0.mk HE.out.box
          have HRO := Aside0.mk HE.out.old
          have HBW := Aside0.mk HE.out.below
          have hbx : wr.heap[w.heap.size]? = some (.cells #[.bool false, .bool false, .slice none 0 0, .slice none 0 0, .slice none 0 0] 29 (0, 0)) := HE.out.box.1
          have y0 := (blk_cell hbx 0).trans (rfl : _ = some (Value.bool false))
          have y1 := (blk_cell hbx 1).trans (rfl : _ = some (Value.bool false))
          have y2 := (blk_cell hbx 2).trans (rfl : _ = some (Value.slice none 0 0))
          have y3 := (blk_cell hbx 3).trans (rfl : _ = some (Value.slice none 0 0))
          have y4 := (blk_cell hbx 4).trans (rfl : _ = some (Value.slice none 0 0))
          have z0 := blk_frozen hbx 0
          have z1 := blk_frozen hbx 1
          have z2 := blk_frozen hbx 2
          have z3 := blk_frozen hbx 3
          have z4 := blk_frozen hbx 4
          have n0 : (0 : Int) < (row.length : Int) := by omega
          have n1 : (0 < row.length) = True := eq_true (by omega)
          clear hcl hfk hcc hs0 hp1 HE HS hbx
          go_wp2_with fail
          have HB6 : Aside0 ((((((wr.setCell ⟨w.heap.size, 0, none⟩ (.bool S0.f0)).setCell ⟨w.heap.size, 1, none⟩ (.bool S0.f1)).setCell ⟨w.heap.size, 2, none⟩ (.slice A2 S0.f2.length c2)).setCell ⟨w.heap.size, 3, none⟩ (.slice A3 S0.f3.length c3)).setCell ⟨w.heap.size, 4, none⟩ (.slice A4 S0.f4.length c4)).heap[w.heap.size]? = some (.cells #[.bool S0.f0, .bool S0.f1, .slice A2 S0.f2.length c2, .slice A3 S0.f3.length c3, .slice A4 S0.f4.length c4] 29 (0, 0))) := ⟨blk_set (blk_set (blk_set (blk_set (blk_set HBX.out.1 0 (.bool S0.f0)) 1 (.bool S0.f1)) 2 (.slice A2 S0.f2.length c2)) 3 (.slice A3 S0.f3.length c3)) 4 (.slice A4 S0.f4.length c4)⟩
          have HBE : Aside0 (Below w.heap.size w (((((wr.setCell ⟨w.heap.size, 0, none⟩ (.bool S0.f0)).setCell ⟨w.heap.size, 1, none⟩ (.bool S0.f1)).setCell ⟨w.heap.size, 2, none⟩ (.slice A2 S0.f2.length c2)).setCell ⟨w.heap.size, 3, none⟩ (.slice A3 S0.f3.length c3)).setCell ⟨w.heap.size, 4, none⟩ (.slice A4 S0.f4.length c4))) := ⟨((((HBW.out.setCell (p := ⟨w.heap.size, 0, none⟩) (Nat.le_refl _) _).setCell (p := ⟨w.heap.size, 1, none⟩) (Nat.le_refl _) _).setCell (p := ⟨w.heap.size, 2, none⟩) (Nat.le_refl _) _).setCell (p := ⟨w.heap.size, 3, none⟩) (Nat.le_refl _) _).setCell (p := ⟨w.heap.size, 4, none⟩) (Nat.le_refl _) _⟩
          have HFE : Aside0 (kSh.FK (((((wr.setCell ⟨w.heap.size, 0, none⟩ (.bool S0.f0)).setCell ⟨w.heap.size, 1, none⟩ (.bool S0.f1)).setCell ⟨w.heap.size, 2, none⟩ (.slice A2 S0.f2.length c2)).setCell ⟨w.heap.size, 3, none⟩ (.slice A3 S0.f3.length c3)).setCell ⟨w.heap.size, 4, none⟩ (.slice A4 S0.f4.length c4)) (fun k => w.heap.size ≤ k) S0 [.bool S0.f0, .bool S0.f1, .slice A2 S0.f2.length c2, .slice A3 S0.f3.length c3, .slice A4 S0.f4.length c4]) := ⟨by
            have hne : ∀ k, ρ k = 16 → k ≠ w.heap.size := fun k hk e => by have h := HBX.out.2; rw [← e, hk] at h; omega
            refine Kd.FK_mono (Kd.FK_step HFK.out (fun k hk _ => ?_)) (fun k hk => Nat.not_lt.1 (fun h => by have h := HRO.out k h; omega))
            rw [Below.heap_setCell _ _ _ k (hne k hk), Below.heap_setCell _ _ _ k (hne k hk), Below.heap_setCell _ _ _ k (hne k hk), Below.heap_setCell _ _ _ k (hne k hk), Below.heap_setCell _ _ _ k (hne k hk)]⟩
          clear e0 e1 e2 e3 e4 y0 y1 y2 y3 y4 z0 z1 z2 z3 z4
          generalize (((((wr.setCell ⟨w.heap.size, 0, none⟩ (.bool S0.f0)).setCell ⟨w.heap.size, 1, none⟩ (.bool S0.f1)).setCell ⟨w.heap.size, 2, none⟩ (.slice A2 S0.f2.length c2)).setCell ⟨w.heap.size, 3, none⟩ (.slice A3 S0.f3.length c3)).setCell ⟨w.heap.size, 4, none⟩ (.slice A4 S0.f4.length c4)) = we at HB6 HBE HFE ⊢
          (try simp only [Exit.inBlock, Exit.then])
          refine bodyPost_ret (results_cell_row rfl _ _ w.heap.size 29 _ (0, 0) _ rfl HB6.out Tryz.underlying29 rfl (by kernel_rfl)) rfl ?_
          exact ⟨[.bool S0.f0, .bool S0.f1, .slice A2 S0.f2.length c2, .slice A3 S0.f3.length c3, .slice A4 S0.f4.length c4], rfl, by rw [← HS0.out]; exact HFE.out, HBE.out⟩
    | cons n ns =>
      have hcnt := HE.out.cnt
      rw [List.length_cons] at hcnt
      have hsum := HE.out.sum
      rw [List.sum_cons] at hsum
      have hn1 := HE.out.pos n List.mem_cons_self
      have d5 : decide ((acc.length : Int) < (ps.length : Int)) = true := decide_eq_true (by omega)
      have d6 : decide (acc.length < ps.length) = true := decide_eq_true (by omega)
      have hpC := Kd.F_now HE.out.parts
      obtain ⟨ap, rfl⟩ : ∃ ap, pA = some ap := by
        obtain ⟨ap, h, _⟩ := hpC.2.2 (by omega)
        exact ⟨ap, h⟩
      have hpn := Kd.foot_int hpC (acc.length : Int) (by omega) (by omega)
      have htold := HE.out.told 0
      rw [Nat.add_zero, List.getD_cons_zero] at htold
      rw [htold, Int.toNat_natCast] at hpn
      have p0 : (0 : Int) ≤ (acc.length : Int) := by omega
      have p1 : (acc.length : Int) < (ps.length : Int) := by omega
      have HCNT := Aside0.mk hcnt
      have HSUM := Aside0.mk hsum
      have HN1 := Aside0.mk hn1
      clear hpC htold hcnt hsum hn1
      go_upto_region 8 with fail
      have hn0 : (0 : Int) ≤ (n : Int) := by omega
      have hny : (n : Int) ≤ (ys.length : Int) := by have := HSUM.out; omega
      have hy0 : (0 : Int) < (ys.length : Int) := by have := HSUM.out; have := HN1.out; omega
      obtain ⟨al, rfl, hk1, _⟩ := at_T106 HE.out.lC 0 (by omega) hy0
      have hal : World.cell? w al = some (.int .i64 (rd_T106 ys 0).f0) := by simpa [Addr.add_zero'] using hk1
      have hx : World.cell? wr al = some (.int .i64 (rd_T106 ys 0).f0) := (HE.out.below.cell (World.block_lt_of_cell? w _ hal)).trans hal
      have HAL := Aside0.mk (World.block_lt_of_cell? w _ hal)
      have HALC := Aside0.mk hal
      generalize hkk : (rd_T106 ys 0).f0 = kk at hx HALC
      have HKK := Aside0.mk hkk
      have hl0 : (0 < ys.length) = True := eq_true (by omega)
      have hcut := cut_to 26 106 .i64 Tryz.underlying26 hiP (some al) ys.length c (n : Int) hn0 hny HE.out.cap
      rw [Int.toNat_natCast] at hcut
      have HTK : Aside0 (kP.C w (some al) n (ys.take n)) := ⟨by have h := Kd.C_take HE.out.lC (m := n) (by omega); rwa [List.length_take, Nat.min_eq_left (by omega)] at h⟩
      have HN60 : Aside0 (n ≤ 60) := ⟨by have := HE.out.l60; omega⟩
      have HA60 : Aside0 (acc.length ≤ 60) := ⟨by have := HE.out.p60; have := HCNT.out; omega⟩
      clear hk1 hal hkk d5 d6 hpn p0 p1
      refine ordStart (n := 18) (S := fun w' => w'.cell? al = some (.int .i64 kk)) (ds := []) (by kernel_rfl) rfl tabEv8 bitsEv8 hx (fun hHeld HT_ HW_ => ?_)
      refine ord_ [(0, some 27), (2, some 29), (3, some 30), (4, some 31), (9, some 36), (10, some 37), (11, some 38), (12, some 39), (13, some 40)] ?_
      iterate 8 (refine ordP (v := ?_) (a' := ?_) HT_ (by kernel_rfl) rfl rfl (fun _ _ _ h => h) (Or.inl ⟨by rfl, ?_⟩) ?_ ?_; rotate_left; (intro w'; go_simp; with_reducible rfl); rotate_left; (simp only [Act.put, p1_, p2_, p3_, i64_w, i32_w]; rfl))
      (refine ordT (v := ?_) (a' := ?_) HT_ HW_ (by kernel_rfl) rfl rfl (fun _ _ _ h => h) hHeld (Or.inl ⟨by rfl, ?_⟩) ?_ ?_; rotate_left; (rintro w' s0; go_simp; with_reducible rfl); rotate_left; (simp only [Act.put, p1_, p2_, p3_, i64_w, i32_w]; rfl))
      refine ordNil ?_
      have HRow := Aside0.mk (Row.below HE.out.row (below_drew (Below.refl _ _)))
      have HFs := Aside0.mk (Kd.R_drew HE.out.fs)
      have HPa := Aside0.mk (Kd.F_drew HE.out.parts)
      have HBx := Aside0.mk (Bl.below HE.out.box (below_drew (Below.refl _ _)))
      have HBd := Aside0.mk (below_drew HE.out.below)
      clear hHeld hx
      generalize wr.drew = wd at HRow HFs HPa HBx HBd ⊢
      refine chainsP_ HT_.out [[1, 5, 6, 7, 8], [14], []] [15, 16, 17] [(28, 1), (32, 5), (33, 6), (34, 7), (35, 8), (41, 14)] #[Y_,Y_,Y_,Y_,Y_,Y_,Y_,Y_,Y_,Y_,Y_,Y_,Y_,Y_,Y_,N_,N_,N_] (by kernel_rfl) (by kernel_rfl) (fun w' => Below w.heap.size w w') (Ev8A w w.heap.size acc u5 (ys.take n) accK u6 (some ap) ps kk) (fun w' h => (h.cell HAL.out).trans HALC.out) ρ HBd.out ?_ Ev8A.dep Ev8A.still ?_ ?_
      · intro q hq u
        match q, hq with
        | 0, _ => exact HRow.out
        | 1, _ => exact HFs.out
        | 2, _ => exact ⟨HPa.out, HBx.out, HE.out.old⟩
      · intro q p hq hp u ρ w' hb hstill hA
        have hsz := hb.size
        match q, hq, p, hp, hA with
        | 0, _, 0, _, hA =>
          refine cstep_ (i := 1) (s := 28) (a1 := ?_) rfl rfl rfl rfl ?_ ?_
          rotate_left; · simp only [puts, Act.put, u1_, u2_, u3_]; rfl
          intro K hK
          refine value_ (v := .slice (some ⟨w'.heap.size, 0, none⟩) 0 0) (w1 := w'.alloc (.cells #[] 106)) (by rfl) rfl (by go_simp) ?_
          exact hK.out _ (paint ρ w'.heap.size 1) _ (below_alloc hb _) (MvC.alloc _) ⟨Row.allocd hA _ _, R_none _ _ _ _ hsz _ _⟩
        | 0, _, 1, _, hA =>
          obtain ⟨hrow, hu⟩ := hA
          refine cstep_ (i := 5) (s := 32) (a1 := ?_) rfl rfl rfl rfl ?_ ?_
          rotate_left; · simp only [puts, Act.put, u1_, u2_, u3_]; rfl
          intro K hK
          refine Kd.R_append_rows_step kP (w0 := w) w.heap.size (by rfl) (.tmp 28) (.tmp 31) 26 106 (.agg #[.int .i64 0, .int .i64 0]) 16 rfl Tryz.underlying26 info106 rfl (by decide) (by omega) (u 1) [] (ys.take n) (some al) n c (fun k => paint ρ w'.heap.size 1 k = 1) (fun _ => False) (by rfl) (by rfl) (R_tint hu (fun k hk h => (if_pos hk).trans h)) (Kd.C_below HTK.out hb) (fun x cs h => by rw [k106_open h]; exact k106_mkM _ _ _ x) (fun _ hk => hk.elim) (fun k hk => if_neg (by omega)) hb hsz (by have := HN60.out; simp; omega) ?_
          intro v1 w1 hR hb1 hg hat
          exact hK.out v1 (paint ρ w'.heap.size 1) w1 hb1 (MvC.grown hg (fun k hk => by rw [hu.1 k hk])) ⟨hrow.grown hg (fun k hk => by have h1 := hu.1 k hk; rw [h1]; exact ⟨by omega, by unfold Y16; omega⟩) 1, by rw [List.nil_append] at hR; exact hR⟩
        | 0, _, 2, _, hA =>
          obtain ⟨hrow, hu⟩ := hA
          refine cstep_ (i := 6) (s := 33) (a1 := ?_) rfl rfl rfl rfl ?_ ?_
          rotate_left; · simp only [puts, Act.put, u1_, u2_, u3_]; rfl
          intro K hK
          obtain ⟨A5, c5, h5⟩ := Kd.R_slice hu
          rw [h5] at hK ⊢
          refine value_ (v := .agg #[.bool true, .bool false, .slice A5 (ys.take n).length c5, .slice none 0 0, .slice none 0 0]) (w1 := w') (by rfl) rfl (by go_simp) ?_
          exact hK.out _ ρ _ hb (MvC.refl _ _ _) ⟨hrow, hu, by rw [show updv u 6 _ 5 = u 5 from rfl, h5]; rfl⟩
        | 0, _, 3, _, hA =>
          obtain ⟨hrow, hu, h6⟩ := hA
          obtain ⟨A5, c5, h5⟩ := Kd.R_slice hu
          refine cstep_ (i := 7) (s := 34) (a1 := ?_) rfl rfl rfl rfl ?_ ?_
          rotate_left; · simp only [puts, Act.put, u1_, u2_, u3_]; rfl
          intro K hK
          rw [h6, h5] at hK ⊢
          refine value_ (v := .slice (some ⟨w'.heap.size, 0, none⟩) 1 1) (w1 := w'.alloc (.cells #[.bool true, .bool false, .slice A5 (ys.take n).length c5, .slice none 0 0, .slice none 0 0] 29)) (by rfl) rfl (by go_simp) ?_
          exact hK.out _ (paint ρ w'.heap.size 2) _ (below_alloc hb _) (MvC.alloc _) ⟨hrow.allocd _ _, R_col hu (col_alloc _ _), _, rfl, by rw [show updv u 7 _ 5 = u 5 from rfl, h5]; exact Bl.new ρ 2 w' _⟩
        | 0, _, 4, _, hA =>
          obtain ⟨hrow, hu, g, h7, hbl⟩ := hA
          obtain ⟨A5, c5, h5⟩ := Kd.R_slice hu
          rw [h5] at hbl hu
          have hlt := blk_lt hbl.1
          have hfk : kSh.FK w' (fun k => ρ k = 1 ∧ k < w'.heap.size) (⟨true, false, ys.take n, [], []⟩ : Sh) [.bool true, .bool false, .slice A5 (ys.take n).length c5, .slice none 0 0, .slice none 0 0] := k29_mkF w' _ ⟨true, false, ys.take n, [], []⟩ (Kd.R_reads' hu).2.1 (Kd.F_bound (Kd.R_F hu)) (Nat.le_refl _) (Kd.F_nil _ _ _) (Nat.le_refl _) (Kd.F_nil _ _ _)
          refine cstep_ (i := 8) (s := 35) (a1 := ?_) rfl rfl rfl rfl ?_ ?_
          rotate_left; · simp only [puts, Act.put, u1_, u2_, u3_]; rfl
          intro K hK
          rw [h7] at hK ⊢
          refine Kd.N_append_rows_step kSh (w0 := w) w.heap.size (by rfl) (.tmp 27) (.tmp 34) 27 29 (.agg #[(.bool false), (.bool false), (.slice none 0 0), (.slice none 0 0), (.slice none 0 0)]) 80 rfl Tryz.underlying27 info29 rfl (by decide) (by omega) u5 acc [⟨true, false, ys.take n, [], []⟩] (some ⟨g, 0, none⟩) 1 1 (fun k => paint ρ w'.heap.size 0 k = 0 ∨ (paint ρ w'.heap.size 0 k = 16 ∨ paint ρ w'.heap.size 0 k = 1 ∨ paint ρ w'.heap.size 0 k = 2)) (fun k => k = g ∨ (ρ k = 1 ∧ k < w'.heap.size)) (by rfl) (by rfl)
            (Kd.N_mono (Kd.N_bound hrow.row) (fun k hk => by rw [show paint ρ w'.heap.size 0 k = ρ k from if_pos hk.2]; exact hk.1.imp id (fun h => .inl h))) (one_F hbl.1 hfk)
            (fun k hk => by
              rcases hk with rfl | ⟨h1, h2⟩
              · rw [show paint ρ w'.heap.size 0 k = ρ k from if_pos hlt, hbl.2]
                exact ⟨.inr (.inr (.inr rfl)), fun e => by have := hrow.own k e.symm; have := hbl.2; omega⟩
              · rw [show paint ρ w'.heap.size 0 k = ρ k from if_pos h2, h1]
                exact ⟨.inr (.inr (.inl rfl)), fun e => by have := hrow.own k e.symm; omega⟩)
            (fun k hk => .inl (if_neg (by omega))) hb hsz (by have := HA60.out; omega) ?_
          intro v1 w1 hN hb1 hg hat
          exact hK.out v1 (paint ρ w'.heap.size 0) w1 hb1 (MvC.grown hg (fun k hk => by rw [hrow.own k hk])) ⟨hN, fun k hk => by
            rcases hat with hat | ⟨b1, hb2, hle⟩
            · have h1 : u5.ownBlock = some k := hat ▸ hk
              exact (if_pos (Kd.N_lt hrow.row k h1)).trans (hrow.own k h1)
            · have h1 : some b1 = some k := hb2.symm.trans hk
              injection h1 with h1
              exact if_neg (by omega)⟩
        | 0, _, p + 5, hp, _ => exact absurd hp (by simp)
        | 1, _, 0, _, hA =>
          refine cstep_ (i := 14) (s := 41) (a1 := ?_) rfl rfl rfl rfl ?_ ?_
          rotate_left; · simp only [puts, Act.put, u1_, u2_, u3_]; rfl
          intro K hK
          refine value_ (v := .slice (some ⟨w'.heap.size, 0, none⟩) 1 1) (w1 := w'.alloc (.cells #[.int .i64 kk] 2)) (by rfl) rfl (by go_simp) ?_
          exact hK.out _ (paint ρ w'.heap.size 9) _ (below_alloc hb _) (MvC.alloc _) ⟨R_col hA (col_alloc _ _), _, rfl, Bl.new ρ 9 w' _⟩
        | 1, _, p + 1, hp, _ => exact absurd hp (by simp)
        | 2, _, p, hp, _ => exact absurd hp (by simp)
        | q + 3, hq, _, _, _ => exact absurd hq (by simp)
      · intro u ρ w' hb hA
        have h0 := hA 0 (by simp)
        obtain ⟨hfs, g, h14, hbl⟩ := hA 1 (by simp)
        obtain ⟨hpa, hbx, hold⟩ := hA 2 (by simp)
        clear hA
        have hsz := hb.size
        refine norm_ (a' := ?_) ?_ ?_
        rotate_left; · simp only [puts, Act.put, u1_, u2_, u3_]; rfl
        rw [h14]
        refine ordOne (i := 15) (some 42) HT_ (by kernel_rfl) rfl rfl (by decide) (fun K_ hK => ?_)
        refine Kd.R_append_rows_step (Kd.int .i64) (w0 := w) w.heap.size (by rfl) (.tmp 36) (.tmp 41) 22 2 (.int .i64 0) 8 rfl Tryz.underlying22 info2 rfl (by decide) (by omega) u6 accK [kk] (some ⟨g, 0, none⟩) 1 1 (fun k => paint ρ w'.heap.size 8 k = 8) (fun _ => False) (by rfl) (by rfl) (R_tint hfs (fun k hk h => (if_pos hk).trans h)) (Kd.F_now (one_F (d := Kd.int .i64) (ok := fun _ => False) (cs := [.int .i64 kk]) hbl.1 (fun W _ => rfl))) (fun x cs h => h) (fun _ hk => hk.elim) (fun k hk => if_neg (by omega)) hb hsz (by have := HE.out.lenK; have := HA60.out; omega) ?_
        intro v1 w1 hR hb1 hg hat
        refine hK.out _ _ ((hb1.cell HAL.out).trans HALC.out) (fun hHeld => ?_)
        clear hK K_
        refine norm_ (a' := ?_) ?_ ?_
        rotate_left; · show Act.put _ (some 42) _ = _; simp only [Act.put, p1_, p2_, p3_, i64_w, i32_w]; rfl
        refine ord_ [(16, some 5), (17, some 6)] ?_
        iterate 2 (refine ordP (v := ?_) (a' := ?_) HT_ (by kernel_rfl) rfl rfl (fun _ _ _ h => h) (Or.inl ⟨by rfl, ?_⟩) ?_ ?_; rotate_left; (intro w'; go_simp; with_reducible rfl); rotate_left; (simp only [Act.put, p1_, p2_, p3_, i64_w, i32_w]; rfl))
        refine ordNil ?_
        refine done_ (done_of HT_.out (by kernel_rfl)) ?_
        have hx0 : Row (paint ρ w'.heap.size 8) 0 (fun c => c = 16 ∨ c = 1 ∨ c = 2) w1 w.heap.size (u 8) (acc ++ [⟨true, false, ys.take n, [], []⟩]) := Row.grown h0 hg (fun k hk => by rw [hfs.1 k hk]; omega) 8
        have HROW := Aside0.mk (hx0.tint (ρ1 := fade (paint ρ w'.heap.size 8)) (y := 0) (Y1 := Y16) (fun k _ h => fade_keep h (by omega)) (fun k _ h => fade_16 h))
        have HFSN := Aside0.mk (R_tint hR (ρ1 := fade (paint ρ w'.heap.size 8)) (y := 8) (fun k _ h => fade_keep h (by omega)))
        have HPAN := Aside0.mk (F_tint (F_col hpa (col_grown hg 8 (fun k hk => by rw [hfs.1 k hk]; omega))) (ρ1 := fade (paint ρ w'.heap.size 8)) (y := 17) (fun k _ h => fade_keep h (by omega)))
        have HBXN := Aside0.mk (Bl.tint (Bl.col hbx (col_grown hg 8 (fun k hk => by rw [hfs.1 k hk]; omega))) (ρ1 := fade (paint ρ w'.heap.size 8)) (y := 18) (fun k _ h => fade_keep h (by omega)))
        have HBN := Aside0.mk hb1
        have HOLD := Aside0.mk (fade_old (paint_old (n := w'.heap.size) (x := 8) hold hsz))
        generalize fade (paint ρ w'.heap.size 8) = ρn at HROW HFSN HPAN HBXN HOLD
        have hcf := cut_from 26 106 .i64 Tryz.underlying26 hiP 2 rfl (some al) ys.length c (n : Int) hn0 hny
        rw [Int.toNat_natCast] at hcf
        clear h0 hfs hbl hpa hbx hold hb hsz hR hb1 hg hat hx0 hHeld h14 HT_ HW_
        generalize u 8 = v5n at HROW ⊢
        go_wp2_with fail
        go_round
        case rel =>
          refine ⟨ρn, (if c = n then some al else some (al.add (n * 2))), c - n, ys.drop n, ns, acc ++ [⟨true, false, ys.take n, [], []⟩], accK ++ [kk], ⟨?_⟩⟩
          have hE := HE.out
          have hcnt := HCNT.out
          exact {
            e0 := by rw [List.length_drop]
            e23 := by rw [List.length_append, List.length_singleton, wrap_succ _ (by have := HA60.out; omega)]
            cap := by have := hE.cap; rw [List.length_drop]; omega
            lC := by have h := Kd.C_drop hE.lC (m := n) (by have := HSUM.out; omega) hE.cap; exact h
            l60 := by have := hE.l60; rw [List.length_drop]; omega
            sum := by have := HSUM.out; rw [List.length_drop]; omega
            pos := fun m hm => hE.pos m (List.mem_cons_of_mem _ hm)
            cnt := by rw [List.length_append, List.length_singleton]; omega
            p60 := hE.p60
            told := fun j => by
              have h := hE.told (j + 1)
              rw [List.getD_cons_succ] at h
              rw [List.length_append, List.length_singleton, show acc.length + 1 + j = acc.length + (j + 1) by omega]
              exact h
            eR := by have h := hE.eR; rw [leafRow] at h; rw [← h, List.append_assoc]; rfl
            eK := by have h := hE.eK; rw [leafKey, HKK.out] at h; rw [← h, List.append_assoc]; rfl
            lenK := by rw [List.length_append, List.length_append, hE.lenK]; rfl
            below := HBN.out
            row := HROW.out
            fs := HFSN.out
            parts := HPAN.out
            box := HBXN.out
            old := HOLD.out }
        case measure =>
          exact meas_succ (by have := HCNT.out; omega) (by have := HA60.out; omega)
set_option maxHeartbeats 4000000 in
set_option maxRecDepth 100000 in
theorem even_empty (c : Nat) (A : Option Addr) (b : Nat) (w : World) :
    Calls Tryz.prog 15 #[.slice A 0 c, .int .i64 b] w fun e w1 => ∃ cs, e = .returned (.agg cs.toArray) ∧ kSh.FK w1 (fun k => w.heap.size ≤ k) (evenT [] b) cs ∧ Below w.heap.size w w1 := by
  have HX0 := Aside0.mk (blk_new w (.cells #[.bool false, .bool false, .slice none 0 0, .slice none 0 0, .slice none 0 0] 29))
  have HB0 := Aside0.mk (below_alloc (Below.refl w.heap.size w) (.cells #[.bool false, .bool false, .slice none 0 0, .slice none 0 0, .slice none 0 0] 29))
  go_enter Tryz.func15, Tryz.ntmps15
  go_upto_region 1 with fail
  generalize w.alloc (.cells #[.bool false, .bool false, .slice none 0 0, .slice none 0 0, .slice none 0 0] 29) = wr at HX0 HB0 ⊢
  have hbx := HX0.out
  have y0 := (blk_cell hbx 0).trans (rfl : _ = some (Value.bool false))
  have y1 := (blk_cell hbx 1).trans (rfl : _ = some (Value.bool false))
  have y2 := (blk_cell hbx 2).trans (rfl : _ = some (Value.slice none 0 0))
  have y3 := (blk_cell hbx 3).trans (rfl : _ = some (Value.slice none 0 0))
  have y4 := (blk_cell hbx 4).trans (rfl : _ = some (Value.slice none 0 0))
  have z0 := blk_frozen hbx 0
  have z1 := blk_frozen hbx 1
  have z2 := blk_frozen hbx 2
  have z3 := blk_frozen hbx 3
  have z4 := blk_frozen hbx 4
  clear hbx
  go_wp2_with fail
  have HB6 : Aside0 ((((((wr.setCell ⟨w.heap.size, 0, none⟩ (.bool true)).setCell ⟨w.heap.size, 1, none⟩ (.bool false)).setCell ⟨w.heap.size, 2, none⟩ (.slice none 0 0)).setCell ⟨w.heap.size, 3, none⟩ (.slice none 0 0)).setCell ⟨w.heap.size, 4, none⟩ (.slice none 0 0)).heap[w.heap.size]? = some (.cells #[.bool true, .bool false, .slice none 0 0, .slice none 0 0, .slice none 0 0] 29 (0, 0))) := ⟨blk_set (blk_set (blk_set (blk_set (blk_set HX0.out 0 (.bool true)) 1 (.bool false)) 2 (.slice none 0 0)) 3 (.slice none 0 0)) 4 (.slice none 0 0)⟩
  have HBE : Aside0 (Below w.heap.size w (((((wr.setCell ⟨w.heap.size, 0, none⟩ (.bool true)).setCell ⟨w.heap.size, 1, none⟩ (.bool false)).setCell ⟨w.heap.size, 2, none⟩ (.slice none 0 0)).setCell ⟨w.heap.size, 3, none⟩ (.slice none 0 0)).setCell ⟨w.heap.size, 4, none⟩ (.slice none 0 0))) := ⟨((((HB0.out.setCell (p := ⟨w.heap.size, 0, none⟩) (Nat.le_refl _) _).setCell (p := ⟨w.heap.size, 1, none⟩) (Nat.le_refl _) _).setCell (p := ⟨w.heap.size, 2, none⟩) (Nat.le_refl _) _).setCell (p := ⟨w.heap.size, 3, none⟩) (Nat.le_refl _) _).setCell (p := ⟨w.heap.size, 4, none⟩) (Nat.le_refl _) _⟩
  clear y0 y1 y2 y3 y4 z0 z1 z2 z3 z4
  generalize (((((wr.setCell ⟨w.heap.size, 0, none⟩ (.bool true)).setCell ⟨w.heap.size, 1, none⟩ (.bool false)).setCell ⟨w.heap.size, 2, none⟩ (.slice none 0 0)).setCell ⟨w.heap.size, 3, none⟩ (.slice none 0 0)).setCell ⟨w.heap.size, 4, none⟩ (.slice none 0 0)) = we at HB6 HBE ⊢
  (try simp only [Exit.inBlock, Exit.then])
  refine bodyPost_ret (results_cell_row rfl _ _ w.heap.size 29 _ (0, 0) _ rfl HB6.out Tryz.underlying29 rfl (by kernel_rfl)) rfl ?_
  exact ⟨[.bool true, .bool false, .slice none 0 0, .slice none 0 0, .slice none 0 0], rfl, k29_mkF we _ ⟨true, false, [], [], []⟩ (Nat.le_refl _) (Kd.F_nil _ _ _) (Nat.le_refl _) (Kd.F_nil _ _ _) (Nat.le_refl _) (Kd.F_nil _ _ _), HBE.out⟩
theorem even_any (A : Option Addr) (c : Nat) (xs : List Pr2) (b : Nat) (w : World) (hC : kP.C w A xs.length xs) (hc : xs.length ≤ c) (h60 : xs.length ≤ 60) (hb : 3 ≤ b) (hb8 : b ≤ 8) :
    Calls Tryz.prog 15 #[.slice A xs.length c, .int .i64 b] w fun e w1 => ∃ cs, e = .returned (.agg cs.toArray) ∧ kSh.FK w1 (fun k => w.heap.size ≤ k) (evenT xs b) cs ∧ Below w.heap.size w w1 := by
  cases xs with
  | nil => exact even_empty c A b w
  | cons x xs => exact even_calls A c (x :: xs) b w hC hc h60 (by simp) hb hb8
end Go.Proofs.YtelmidpepojbdaaGreat.Tower
namespace Go.Proofs.YtelmidpepojbdaaGreat.Tower
open Go Go.RowKit Go.Proofs.YtelmidpepojbdaaGreatW.PrintWords Go.Proofs.YtelmidpepojbdaaGreatW.PrintLast Go.Proofs.YtelmidpepojbdaaGreatW.PrintMore Go.Proofs.YtelmidpepojbdaaGreat.Own
set_option linter.unusedVariables false
set_option linter.unusedSimpArgs false
def Ar.info (a : Ar) (r : Int) : Int × Ar :=
  match a.idx r with
  | none => (0, a.fault)
  | some j => match a.slots[j]? with
    | none => (0, a)
    | some s => (s.info, a)
def Ar.mark (a : Ar) (r : Int) : Bool × Ar :=
  match a.idx r with
  | none => (false, a.fault)
  | some j => match a.slots[j]? with
    | none => (false, a)
    | some s => (s.mark, a)
def Ar.swapWay (a : Ar) (r i old now : Int) : Bool × Ar :=
  match a.idx r with
  | none => (false, a.fault)
  | some j => match a.slots[j]? with
    | none => (false, a)
    | some s => if i < 0 then (false, a) else if (s.ways.length : Int) ≤ i then (false, a) else if s.ways.getD i.toNat 0 = old then (true, { a with slots := a.slots.set j { s with ways := s.ways.set i.toNat now } }) else (false, a)
theorem ArenaAt.way_put {ok : Nat → Prop} {pA : Nat} {sv fv : Value} {lv : Nat → Lv} {ρ : Nat → Nat} {a : Ar} {w : World} (h : ArenaAt ok pA sv fv lv ρ a w) {i : Nat} {s : Sl} (hi : a.slots[i]? = some s) {gl cw : Nat} (hv : (lv i).w = .slice (some ⟨gl, 0, none⟩) s.ways.length cw) (j : Int) (x : Int) :
    ArenaAt ok pA sv fv lv ρ { a with slots := a.slots.set i { s with ways := s.ways.set j.toNat x } } (w.setCell ⟨gl, j.toNat, none⟩ (.int .i64 x)) := by
  have hil := (List.getElem?_eq_some_iff.1 hi).1
  have hR := h.ways i s hi
  rw [hv] at hR
  have hgl := hR.1 gl (by simp [Value.ownBlock])
  have hne : ∀ r, r ≠ 4 + i → ∀ k, ρ k = r → k ≠ gl := fun r hr k hk e => hr (by rw [← hk, e, hgl.2])
  have hm : ∀ k, ρ k ≠ 4 + i → (w.setCell ⟨gl, j.toNat, none⟩ (.int .i64 x)).heap[k]? = w.heap[k]? := fun k hk => Below.heap_setCell w ⟨gl, j.toNat, none⟩ _ k (fun e => hk (by rw [e, hgl.2]))
  have hget : ∀ {i1 : Nat} {s2 : Sl}, (a.slots.set i { s with ways := s.ways.set j.toNat x })[i1]? = some s2 → (i1 = i ∧ s2 = { s with ways := s.ways.set j.toNat x }) ∨ (i1 ≠ i ∧ a.slots[i1]? = some s2) := fun {i1 s2} h2 => by
    by_cases he : i = i1
    · subst he
      rw [List.getElem?_set_self hil] at h2
      injection h2 with h2
      exact .inl ⟨rfl, h2.symm⟩
    · rw [List.getElem?_set_ne he] at h2
      exact .inr ⟨fun e => he e.symm, h2⟩
  have hrows : rowsOf (a.slots.set i { s with ways := s.ways.set j.toNat x }) lv = rowsOf a.slots lv := by
    rw [rowsOf_set hil (fun _ _ => rfl)]
    refine List.ext_getElem? fun q => ?_
    by_cases hq : i = q
    · subst hq
      rw [List.getElem?_set_self (by rw [rowsOf_length]; exact hil), rowsOf_get hi]
      rfl
    · rw [List.getElem?_set_ne hq]
  exact {
    own := h.own
    role := h.role
    lt := fun k hk => by simpa [World.setCell] using h.lt k hk
    box := (hm pA (by rw [h.role]; omega)).trans h.box
    rows := by
      show (Kd.raw 10).R _ _ _ _ _ (rowsOf (a.slots.set i _) lv)
      rw [hrows]
      exact Kd.R_step h.rows (fun k hk _ => hm k (by rw [hk.2]; omega))
    free := Kd.Q_step h.free (fun k hk _ => hm k (by rw [hk.2]; omega))
    node := fun i1 s2 h2 => by
      have hs3 : ∃ s3, a.slots[i1]? = some s3 ∧ s3.node = s2.node := by
        rcases hget h2 with ⟨rfl, rfl⟩ | ⟨_, h3⟩
        · exact ⟨s, hi, rfl⟩
        · exact ⟨s2, h3, rfl⟩
      obtain ⟨s3, h3, he⟩ := hs3
      have hn := h.node i1 s3 h3
      rw [he] at hn
      have h4 : ∀ k, (ok k ∧ ρ k = 3) → k < w.heap.size → (w.setCell ⟨gl, j.toNat, none⟩ (.int .i64 x)).heap[k]? = w.heap[k]? := fun k hk _ => hm k (by rw [hk.2]; omega)
      exact ⟨hn.1.step h4, hn.2.1.step h4, hn.2.2.step h4⟩
    ways := fun i1 s2 h2 => by
      rcases hget h2 with ⟨rfl, rfl⟩ | ⟨hi1, h2⟩
      · have h5 := Kd.R_putn hR j x
        show (Kd.int .i64).R _ _ _ _ (lv i1).w (s.ways.set j.toNat x)
        rw [hv]
        exact h5
      · exact Kd.R_step (h.ways i1 s2 h2) (fun k hk _ => hm k (by rw [hk.2]; omega)) }
set_option maxHeartbeats 2000000 in
set_option maxRecDepth 100000 in
theorem swapWay_calls {ok : Nat → Prop} {pA : Nat} {a : Ar} (r i old now : Int) (w : World) (h : IsArena ok pA a w) (hl : a.slots.length < 1000000) :
    Calls Tryz.prog 110 #[.pointer (some ⟨pA, 0, none⟩), .int .i64 r, .int .i64 i, .int .i64 old, .int .i64 now] w (APost ok pA (.bool (a.swapWay r i old now).1) ((a.swapWay r i old now).2) w) := by
  obtain ⟨sv, fv, lv, ρ, h⟩ := h
  have HA := Aside0.mk (at_calls r w h hl)
  cases hx : a.idx r with
  | none =>
    have HF := Aside0.mk (fault_is h)
    have HX := Aside0.mk hx
    have e1 : a.swapWay r i old now = (false, a.fault) := by simp [Ar.swapWay, hx]
    rw [e1]
    clear h hx e1
    go_enter Tryz.func110, Tryz.ntmps110
    go_wp2_with (go_at_call 119; refine HA.out.mono ?_; rintro e w1 ⟨_, hm⟩; obtain ⟨rfl, rfl⟩ := hm HX.out; clear hm)
    go_ret
    exact ⟨rfl, HF.out.1, HF.out.2⟩
  | some j =>
    obtain ⟨hp, s, hs, hu, hr⟩ := Ar.idx_some hx
    obtain ⟨ad, cap, rfl⟩ := Kd.R_slice h.rows
    obtain ⟨hn, g, rfl, hg, hρ, hcc, hfz⟩ := h.cells hs
    have HX := Aside0.mk hx
    have HI := Aside0.mk h
    have HG := Aside0.mk hg
    have HS := Aside0.mk hs
    have hR := h.ways j s hs
    obtain ⟨Aw, cw, ew⟩ := Kd.R_slice hR
    have c5 : w.cell? ⟨g, j * 10 + 5, none⟩ = some (.slice Aw s.ways.length cw) := hcc 5 _ (by rw [← ew]; rfl)
    have e1 : a.swapWay r i old now = (if i < 0 then (false, a) else if (s.ways.length : Int) ≤ i then (false, a) else if s.ways.getD i.toNat 0 = old then (true, { a with slots := a.slots.set j { s with ways := s.ways.set i.toNat now } }) else (false, a)) := by simp [Ar.swapWay, hx, hs]
    rw [e1]
    rw [ew] at hR
    by_cases h0 : i < 0
    · rw [if_pos h0]
      have d1 : decide (i < 0) = true := decide_eq_true h0
      clear h hx hcc hfz hp hs hu hr e1 ew hR h0
      go_enter Tryz.func110, Tryz.ntmps110
      go_wp2_with (go_at_call 119; refine HA.out.mono ?_; rintro e w1 ⟨hm, _⟩; obtain ⟨g1, n1, cap1, e1, rfl, rfl⟩ := hm j HX.out; injection e1 with e1 _ _; injection e1 with e1; injection e1 with e1 _ _; subst e1; clear hm)
      go_ret
      exact ⟨rfl, ⟨_, _, _, _, HI.out⟩, Moves.refl _ _⟩
    · rw [if_neg h0]
      have d1 : decide (i < 0) = false := decide_eq_false h0
      by_cases h1 : (s.ways.length : Int) ≤ i
      · rw [if_pos h1]
        have d2 : decide (i ≥ (s.ways.length : Int)) = true := decide_eq_true h1
        have d2' : decide ((s.ways.length : Int) ≤ i) = true := decide_eq_true h1
        clear h hx hcc hfz hp hs hu hr e1 ew hR h0 h1
        go_enter Tryz.func110, Tryz.ntmps110
        go_wp2_with (go_at_call 119; refine HA.out.mono ?_; rintro e w1 ⟨hm, _⟩; obtain ⟨g1, n1, cap1, e1, rfl, rfl⟩ := hm j HX.out; injection e1 with e1 _ _; injection e1 with e1; injection e1 with e1 _ _; subst e1; clear hm)
        go_ret
        exact ⟨rfl, ⟨_, _, _, _, HI.out⟩, Moves.refl _ _⟩
      · rw [if_neg h1]
        have d2 : decide (i ≥ (s.ways.length : Int)) = false := decide_eq_false h1
        have d2' : decide ((s.ways.length : Int) ≤ i) = false := decide_eq_false h1
        have b1 : 0 ≤ i := by omega
        have b2 : i < (s.ways.length : Int) := by omega
        obtain ⟨gl, rfl, _, hcl⟩ := int_elem hR i b1 b2
        have hfw := (Kd.R_celln (0 : Int) hR i b1 b2).2
        have HGL := Aside0.mk (hR.1 gl (by simp [Value.ownBlock]))
        by_cases h2 : s.ways.getD i.toNat 0 = old
        · rw [if_pos h2]
          have d3 : (old != old) = false := by simp
          have HN := Aside0.mk (HI.out.way_put hs ew i now)
          rw [h2] at hcl
          clear h hx hcc hfz hp hs hu hr e1 ew hR h0 h1 h2
          go_enter Tryz.func110, Tryz.ntmps110
          go_wp2_with (go_at_call 119; refine HA.out.mono ?_; rintro e w1 ⟨hm, _⟩; obtain ⟨g1, n1, cap1, e1, rfl, rfl⟩ := hm j HX.out; injection e1 with e1 _ _; injection e1 with e1; injection e1 with e1 _ _; subst e1; clear hm)
          go_ret
          exact ⟨rfl, ⟨_, _, _, _, HN.out⟩, (Moves.refl ok _).set (p := ⟨gl, i.toNat, none⟩) (.inl HGL.out.1) _⟩
        · rw [if_neg h2]
          have d3 : (s.ways.getD i.toNat 0 != old) = true := by simpa using h2
          generalize s.ways.getD i.toNat 0 = v at hcl d3
          clear h hx hcc hfz hp hs hu hr e1 ew hR h0 h1 h2
          go_enter Tryz.func110, Tryz.ntmps110
          go_wp2_with (go_at_call 119; refine HA.out.mono ?_; rintro e w1 ⟨hm, _⟩; obtain ⟨g1, n1, cap1, e1, rfl, rfl⟩ := hm j HX.out; injection e1 with e1 _ _; injection e1 with e1; injection e1 with e1 _ _; subst e1; clear hm)
          go_ret
          exact ⟨rfl, ⟨_, _, _, _, HI.out⟩, Moves.refl _ _⟩
end Go.Proofs.YtelmidpepojbdaaGreat.Tower
namespace Go.Proofs.YtelmidpepojbdaaGreat.Tower
open Go Go.RowKit Go.Proofs.YtelmidpepojbdaaGreatW.PrintWords Go.Proofs.YtelmidpepojbdaaGreatW.PrintLast Go.Proofs.YtelmidpepojbdaaGreatW.PrintMore Go.Proofs.YtelmidpepojbdaaGreat.Own Go.Proofs.YtelmidpepojbdaaGreat.PMendRight
set_option linter.unusedVariables false
set_option linter.unusedSimpArgs false
def prs2 (l : List Pr2) : List (Int × Int) := l.map fun q => (q.f0, q.f1)
theorem wrap_mill (k : Nat) (h : k ≤ 1000000) : wrap64 ((k : Int) + 1) = ((k + 1 : Nat) : Int) := by unfold wrap64; omega
theorem meas_mill {k n : Nat} (hk : k < n) (h : k ≤ 1000000) : n - (intOf (Value.int .i64 (wrap64 ((k : Int) + 1)))).toNat < n - (intOf (Value.int .i64 (k : Int))).toNat := by
  rw [wrap_mill k h, show intOf (Value.int .i64 ((k + 1 : Nat) : Int)) = ((k + 1 : Nat) : Int) from rfl, show intOf (Value.int .i64 (k : Int)) = (k : Int) from rfl, Int.toNat_natCast, Int.toNat_natCast]
  omega
theorem prs2_length (l : List Pr2) : (prs2 l).length = l.length := List.length_map _
def ndSh (s : Sh) (ws : List Int) : Nd := ⟨!s.f0, s.f1, prs2 s.f2, s.f3, ws⟩
def madeN (n : Nd) (a : Ar) : Option (Int × Ar) :=
  if a.slots.length < 999999 ∧ n.pairs.length < 1000000 ∧ n.keys.length < 1000000 ∧ n.ways.length < 1000000 then (a.alloc n).map fun q => (q.1.1, q.2) else none
theorem madeN_ways {n : Nd} {a a1 : Ar} {r : Int} (h : madeN n a = some (r, a1)) : a.slots.length < 999999 ∧ n.pairs.length < 1000000 ∧ n.keys.length < 1000000 ∧ n.ways.length < 1000000 := by
  unfold madeN at h
  split at h
  · assumption
  · cases h
theorem madeN_alloc {n : Nd} {a a1 : Ar} {r : Int} (h : madeN n a = some (r, a1)) : ∃ b, a.alloc n = some ((r, b), a1) := by
  unfold madeN at h
  split at h
  · cases hx : a.alloc n with
    | none => rw [hx] at h; cases h
    | some q =>
      obtain ⟨⟨r1, b⟩, a2⟩ := q
      rw [hx] at h
      injection h with h
      injection h with h1 h2
      subst h1
      subst h2
      exact ⟨b, rfl⟩
  · cases h
mutual
def madeT : Sh → Ar → Option (Int × Ar)
  | ⟨l, t, ps, ks, kids⟩, a => (madeL kids a).bind fun q => madeN (ndSh ⟨l, t, ps, ks, kids⟩ q.1) q.2
def madeL : List Sh → Ar → Option (List Int × Ar)
  | [], a => some ([], a)
  | k :: r, a => (madeT k a).bind fun q => (madeL r q.2).bind fun p => some (q.1 :: p.1, p.2)
end
theorem madeT_eq (s : Sh) (a : Ar) : madeT s a = (madeL s.f4 a).bind fun q => madeN (ndSh s q.1) q.2 := by
  cases s
  rw [madeT]
theorem madeL_cons {k : Sh} {r : List Sh} {a a1 : Ar} {ws : List Int} (h : madeL (k :: r) a = some (ws, a1)) : ∃ x ax ws1, madeT k a = some (x, ax) ∧ madeL r ax = some (ws1, a1) ∧ ws = x :: ws1 := by
  rw [madeL] at h
  cases h1 : madeT k a with
  | none => rw [h1] at h; cases h
  | some q =>
    obtain ⟨x, ax⟩ := q
    rw [h1, Option.bind_some] at h
    cases h2 : madeL r ax with
    | none => rw [h2] at h; cases h
    | some p =>
      obtain ⟨ws1, a2⟩ := p
      rw [h2, Option.bind_some] at h
      injection h with h
      injection h with h h3
      subst h3
      exact ⟨x, ax, ws1, rfl, h2, h.symm⟩
theorem kid_lt {s k : Sh} (h : k ∈ s.f4) : SizeOf.sizeOf k < SizeOf.sizeOf s := by
  have h1 := List.sizeOf_lt_of_mem h
  cases s
  simp only at h1
  simp only [S29.mk.sizeOf_spec]
  omega
theorem prs2_F {w : World} {ok : Nat → Prop} {A : Option Addr} {n : Nat} {l : List Pr2} (h : kP.F w ok A n l) : kPair.F w ok A n (prs2 l) := Kd.F_imp h (fun W hC => ⟨by rw [prs2_length]; exact hC.1, hC.2.1, fun hp => by
  obtain ⟨ad, e, hc⟩ := hC.2.2 hp
  refine ⟨ad, e, fun j q hq => ?_⟩
  unfold prs2 at hq
  rw [List.getElem?_map] at hq
  cases hx : l[j]? with
  | none => rw [hx] at hq; cases hq
  | some x =>
    rw [hx] at hq
    injection hq with hq
    subst hq
    exact hc j x hx⟩)
theorem ndSh_F {D : Nat → Prop} {s : Sh} {ws : List Int} {A2 A3 Ay : Option Addr} {c2 c3 cy : Nat} {w : World} (h2 : s.f2.length ≤ c2) (F2 : kP.F w D A2 s.f2.length s.f2) (h3 : s.f3.length ≤ c3) (F3 : (Kd.int .i64).F w D A3 s.f3.length s.f3) (h4 : ws.length ≤ cy) (F4 : (Kd.int .i64).F w D Ay ws.length ws) :
    NdF D (ndSh s ws) (.agg #[.bool (!s.f0), .bool s.f1, .slice A2 s.f2.length c2, .slice A3 s.f3.length c3, .slice Ay ws.length cy]) w :=
  ⟨A2, c2, A3, c3, Ay, cy, by show _ = Value.agg #[_, _, .slice A2 (prs2 s.f2).length c2, _, _]; rw [prs2_length]; rfl, by show (prs2 s.f2).length ≤ c2; rw [prs2_length]; exact h2, h3, h4, by show kPair.F w D A2 (prs2 s.f2).length (prs2 s.f2); rw [prs2_length]; exact prs2_F F2, F3, F4⟩
theorem ways_moves {ok ok1 : Nat → Prop} {b5 base : Nat} {w w1 : World} {v : Value} {xs : List Int} (h : (Kd.int .i64).R 45 w base (fun k => ¬ ok k ∧ k ≠ b5) v xs) (m : Moves ok ok1 w w1) : (Kd.int .i64).R 45 w1 base (fun k => ¬ ok1 k ∧ k ≠ b5) v xs :=
  Kd.R_mono (Kd.R_step (Kd.R_bound h) (fun k hk hlt => m.block k hlt hk.1.1)) (fun k hk => ⟨fun h1 => (m.fresh k h1).elim hk.1.1 (fun h2 => by have := hk.2.2.1; omega), hk.1.2⟩)
theorem ways_bound {ok : Nat → Prop} {b5 base : Nat} {w : World} {v : Value} {xs : List Int} (h : (Kd.int .i64).R 45 w base (fun k => ¬ ok k ∧ k ≠ b5) v xs) : (Kd.int .i64).R 45 w base (fun k => (¬ ok k ∧ k ≠ b5) ∧ k < w.heap.size) v xs := Kd.R_mono (Kd.R_bound h) (fun k hk => ⟨hk.1, hk.2.2.1⟩)
def nbO (l t : Bool) (v2 v3 v4 : Value) : Obj := .cells #[.bool l, .bool t, v2, v3, v4] 116 (0, 0)
def TMade5 : Bool × List (List Nat × List Nat) := (true, [([], []), ([0], [0]), ([1], [1]), ([], []), ([], []), ([3, 4], [3, 4]), ([5], [5]), ([2, 6, 5], [2, 6]), ([0, 1, 2, 3, 4, 5, 6, 7], []), ([8, 0, 1, 2, 3, 4, 5, 6, 7], [8]), ([9, 7, 7, 0, 1, 2, 3, 4, 5, 6, 7], [7, 9])])
def BMade5 : List Nat := [0, 1, 3, 0, 0, 24, 56, 127, 255, 511, 1023]
theorem tabMade5 : rtab .any (opsOf Tryz.f111 5) = TMade5 := by kernel_rfl
theorem bitsMade5 : waitsOk TMade5.2 BMade5 = true := by kernel_rfl
set_option maxHeartbeats 4000000 in
set_option maxRecDepth 100000 in
theorem made_walk (N : Nat) (ih : ∀ m, m < N → ∀ (s : Sh), SizeOf.sizeOf s ≤ m → ∀ (pA : Nat) (ok : Nat → Prop) (a a1 : Ar) (r : Int) (w : World) (cs : List Value), IsArena ok pA a w → kSh.FK w (fun k => ¬ ok k) s cs → madeT s a = some (r, a1) → Calls Tryz.prog 111 #[.pointer (some ⟨pA, 0, none⟩), .agg cs.toArray] w (fun e w1 => ∃ ok1, e = .returned (.int .i64 r) ∧ IsArena ok1 pA a1 w1 ∧ Moves ok ok1 w w1))
    (s : Sh) (hs : SizeOf.sizeOf s ≤ N) (pA : Nat) (ok : Nat → Prop) (a a1 : Ar) (r : Int) (w : World) (cs : List Value) (h : IsArena ok pA a w) (hf : kSh.FK w (fun k => ¬ ok k) s cs) (hr : madeT s a = some (r, a1)) :
    Calls Tryz.prog 111 #[.pointer (some ⟨pA, 0, none⟩), .agg cs.toArray] w (fun e w1 => ∃ ok1, e = .returned (.int .i64 r) ∧ IsArena ok1 pA a1 w1 ∧ Moves ok ok1 w w1) := by
  rw [madeT_eq] at hr
  obtain ⟨q, hq, hr⟩ := Option.bind_eq_some_iff.1 hr
  obtain ⟨ws, aE⟩ := q
  obtain ⟨A2, c2, A3, c3, A4, c4, rfl, l2, F2, l3, F3, l4, F4⟩ := k29_openF hf
  have HQ := Aside0.mk hq
  have HR := Aside0.mk hr
  have HF := Aside0.mk (And.intro l2 (And.intro F2 (And.intro l3 (And.intro F3 (And.intro l4 F4)))))
  have HS := Aside0.mk hs
  have HL := Aside0.mk (fun k hk => h.lt k hk)
  have hA1 := (h.step (w1 := w.alloc (.cells #[.bool s.f0, .bool s.f1, .slice A2 s.f2.length c2, .slice A3 s.f3.length c3, .slice A4 s.f4.length c4] 29)) (by simp) (fun k _ hk => Below.heap_alloc _ _ _ hk))
  have hX1 := Mine.new (ok := ok) (fun k hk => h.lt k hk) (.cells #[.bool s.f0, .bool s.f1, .slice A2 s.f2.length c2, .slice A3 s.f3.length c3, .slice A4 s.f4.length c4] 29)
  have HX1 := Aside0.mk hX1
  have HA1 := Aside0.mk hA1
  have HM1 := Aside0.mk ((Moves.refl ok w).alloc (.cells #[.bool s.f0, .bool s.f1, .slice A2 s.f2.length c2, .slice A3 s.f3.length c3, .slice A4 s.f4.length c4] 29))
  clear h hf hq hr l2 F2 l3 F3 l4 F4 hs hA1 hX1
  go_enter Tryz.func111, Tryz.ntmps111
  go_upto_region 1 with fail
  generalize w.alloc (.cells #[.bool s.f0, .bool s.f1, .slice A2 s.f2.length c2, .slice A3 s.f3.length c3, .slice A4 s.f4.length c4] 29) = w1 at HX1 HA1 HM1 ⊢
  have y0 := (blk_cell HX1.out.1 0).trans (rfl : _ = some (Value.bool s.f0))
  have y1 := (blk_cell HX1.out.1 1).trans (rfl : _ = some (Value.bool s.f1))
  have y2 := (blk_cell HX1.out.1 2).trans (rfl : _ = some (Value.slice A2 s.f2.length c2))
  have y3 := (blk_cell HX1.out.1 3).trans (rfl : _ = some (Value.slice A3 s.f3.length c3))
  have y4 := (blk_cell HX1.out.1 4).trans (rfl : _ = some (Value.slice A4 s.f4.length c4))
  go_upto_region 2 with fail
  have HB2 := Aside0.mk (Mine.new (ok := ok) (fun k hk => HA1.out.lt k hk) (.cells #[.bool (!s.f0), .bool s.f1, .slice A2 s.f2.length c2, .slice A3 s.f3.length c3, .slice none 0 0] 116))
  have HX2 := Aside0.mk (HX1.out.alloc (.cells #[.bool (!s.f0), .bool s.f1, .slice A2 s.f2.length c2, .slice A3 s.f3.length c3, .slice none 0 0] 116))
  have HA2 := Aside0.mk (HA1.out.step (w1 := w1.alloc (.cells #[.bool (!s.f0), .bool s.f1, .slice A2 s.f2.length c2, .slice A3 s.f3.length c3, .slice none 0 0] 116)) (by simp) (fun k _ hk => Below.heap_alloc _ _ _ hk))
  have HM2 := Aside0.mk (HM1.out.alloc (.cells #[.bool (!s.f0), .bool s.f1, .slice A2 s.f2.length c2, .slice A3 s.f3.length c3, .slice none 0 0] 116))
  have hsz1 := HM1.out.size
  clear HX1 HA1 HM1 y0 y1 y2 y3 y4
  generalize w1.alloc (.cells #[.bool (!s.f0), .bool s.f1, .slice A2 s.f2.length c2, .slice A3 s.f3.length c3, .slice none 0 0] 116) = w2 at HB2 HX2 HA2 HM2 ⊢
  generalize hb5 : w1.heap.size = b5 at HB2 hsz1 ⊢
  have y4 := (blk_cell HX2.out.1 4).trans (rfl : _ = some (Value.slice A4 s.f4.length c4))
  have H5 := Aside0.mk hsz1
  clear hb5 hsz1
  go_wp2_with fail
  go_loopw [24] (fun v24 wr => ∃ okc ac acc ks i v4 wsr, v24 = .int .i64 (i : Nat) ∧ Aside0 (s.f4 = (s.f4.take i) ++ ks ∧ i + ks.length = s.f4.length ∧ acc.length = i ∧ madeL ks ac = some (wsr, aE) ∧ acc ++ wsr = ws) ∧ Aside0 (IsArena okc pA ac wr) ∧ Aside0 (Moves ok okc w wr) ∧ Aside0 (Mine okc wr b5 (nbO (!s.f0) s.f1 (.slice A2 s.f2.length c2) (.slice A3 s.f3.length c3) v4)) ∧ Aside0 ((Kd.int .i64).R 45 wr w.heap.size (fun k => ¬ okc k ∧ k ≠ b5) v4 acc)) (fun v24 _ => s.f4.length - (intOf v24).toNat)
  case atStart => exact ⟨ok, a, [], s.f4, 0, .slice none 0 0, ws, rfl, ⟨by simp, by simp, rfl, HQ.out, rfl⟩, HA2, HM2, HB2, ⟨Kd.R_nil _ _ _ _ _⟩⟩
  case round =>
    obtain ⟨okc, ac, acc, ks, i, v4, wsr, rfl, HT, A5, M5, B5, R5⟩ := hrel
    clear HA2 HM2 HB2 HX2
    cases ks with
    | nil =>
      obtain ⟨e1, e2, e3, e4, e5⟩ := HT.out
      rw [List.length_nil, Nat.add_zero] at e2
      rw [madeL] at e4
      injection e4 with e4
      injection e4 with ew ea
      rw [← ew, List.append_nil] at e5
      subst e5
      subst ea
      obtain ⟨Ay, cy, hv4⟩ := Kd.R_slice R5.out
      subst hv4
      have hly := (Kd.R_reads' R5.out).2.1
      obtain ⟨b, hal⟩ := madeN_alloc HR.out
      have HAL := Aside0.mk hal
      have HNF := Aside0.mk (ndSh_F (s := s) HF.out.1 (F_moves HF.out.2.1 M5.out) HF.out.2.2.1 (F_moves HF.out.2.2.2.1 M5.out) hly (Kd.F_mono (Kd.R_F R5.out) (fun k hk => hk.1)))
      have y0 := (blk_cell B5.out.1 0).trans (rfl : _ = some (Value.bool (!s.f0)))
      have y1 := (blk_cell B5.out.1 1).trans (rfl : _ = some (Value.bool s.f1))
      have y2 := (blk_cell B5.out.1 2).trans (rfl : _ = some (Value.slice A2 s.f2.length c2))
      have y3 := (blk_cell B5.out.1 3).trans (rfl : _ = some (Value.slice A3 s.f3.length c3))
      have y4 := (blk_cell B5.out.1 4).trans (rfl : _ = some (Value.slice Ay acc.length cy))
      have d5 : decide ((i : Int) < (s.f4.length : Int)) = false := decide_eq_false (by omega)
      have d6 : decide (i < s.f4.length) = false := decide_eq_false (by omega)
      clear e1 e2 e3 ew hly hal HT B5 R5
      go_wp2_with (go_at_call 109; refine (alloc_calls (ndSh s acc) _ _ A5.out (madeN_ways HR.out).1 HNF.out ⟨(madeN_ways HR.out).2.1, (madeN_ways HR.out).2.2.1, (madeN_ways HR.out).2.2.2⟩ HAL.out).mono ?_; rintro e w9 ⟨rfl, ok9, hA9, hM9⟩; have A9 := Aside0.mk hA9; have M9 := Aside0.mk (M5.out.trans hM9); clear hA9 hM9)
      go_ret
      exact ⟨ok9, rfl, A9.out, M9.out⟩
    | cons kd ks =>
      obtain ⟨e1, e2, e3, e4, e5⟩ := HT.out
      rw [List.length_cons] at e2
      obtain ⟨x, ax, ws1, hx1, hx2, hx3⟩ := madeL_cons e4
      have hkd : s.f4.getD i zSh = kd := by
        have h1 : s.f4[i]? = some kd := by rw [e1, List.getElem?_append_right (by rw [List.length_take, Nat.min_eq_left (by omega)]; omega)]; rw [List.length_take, Nat.min_eq_left (by omega), Nat.sub_self]; rfl
        rw [List.getD_eq_getElem?_getD, h1]; rfl
      have hmem : kd ∈ s.f4 := by rw [e1]; exact List.mem_append_right _ List.mem_cons_self
      have HTX := Aside0.mk hx1
      have HTY := Aside0.mk hx2
      have HWS : Aside0 (acc ++ [x] ++ ws1 = ws) := ⟨by rw [← e5, hx3, List.append_assoc]; rfl⟩
      have HLT : Aside0 (SizeOf.sizeOf kd < N) := ⟨Nat.lt_of_lt_of_le (kid_lt hmem) HS.out⟩
      have hF5 := Kd.F_now (F_moves HF.out.2.2.2.2.2 M5.out)
      have HF5 := Aside0.mk (F_moves HF.out.2.2.2.2.2 M5.out)
      obtain ⟨a4, cd, ha4, hcl, hfk, hcc, _⟩ := Kd.F_get HF5.out zSh (i : Int) (by omega) (by omega)
      subst ha4
      rw [Int.toNat_natCast, hkd] at hfk
      rw [Int.toNat_natCast] at hcc
      obtain ⟨B2, d2, B3, d3, B4, d4, rfl, _⟩ := k29_openF hfk
      have HFK := Aside0.mk hfk
      have q0 := hcc 0 _ rfl
      have q1 := hcc 1 _ rfl
      have q2 := hcc 2 _ rfl
      have q3 := hcc 3 _ rfl
      have q4 := hcc 4 _ rfl
      have hI := (show (kSh).sz = 5 from rfl)
      rw [hI] at q0 q1 q2 q3 q4
      rw [add_field _ _ 1 (by omega)] at q1
      rw [add_field _ _ 2 (by omega)] at q2
      rw [add_field _ _ 3 (by omega)] at q3
      rw [add_field _ _ 4 (by omega)] at q4
      rw [Nat.add_zero] at q0
      have d5 : decide ((i : Int) < (s.f4.length : Int)) = true := decide_eq_true (by omega)
      have d6 : decide (i < s.f4.length) = true := decide_eq_true (by omega)
      have i0 : (0 : Int) ≤ (i : Int) := by omega
      have i1 : (i : Int) < (s.f4.length : Int) := by omega
      have HA60 : Aside0 (acc.length ≤ 1000000) := ⟨by have h1 : ws.length < 1000000 := (madeN_ways HR.out).2.2.2; rw [← e5, List.length_append] at h1; omega⟩
      clear e1 e2 e3 e4 e5 hx1 hx2 hx3 hkd hmem hI
      go_upto_region 5 with fail
      have X6 := Aside0.mk (Mine.new (ok := okc) (fun k hk => A5.out.lt k hk) (.cells #[.bool kd.f0, .bool kd.f1, .slice B2 kd.f2.length d2, .slice B3 kd.f3.length d3, .slice B4 kd.f4.length d4] 29))
      have A6 := Aside0.mk (A5.out.step (w1 := wr.alloc (.cells #[.bool kd.f0, .bool kd.f1, .slice B2 kd.f2.length d2, .slice B3 kd.f3.length d3, .slice B4 kd.f4.length d4] 29)) (by simp) (fun k _ hk => Below.heap_alloc _ _ _ hk))
      have L6 := Aside0.mk ((Moves.refl okc wr).alloc (.cells #[.bool kd.f0, .bool kd.f1, .slice B2 kd.f2.length d2, .slice B3 kd.f3.length d3, .slice B4 kd.f4.length d4] 29))
      have M6 := Aside0.mk (M5.out.alloc (.cells #[.bool kd.f0, .bool kd.f1, .slice B2 kd.f2.length d2, .slice B3 kd.f3.length d3, .slice B4 kd.f4.length d4] 29))
      have B6 := Aside0.mk (B5.out.alloc (.cells #[.bool kd.f0, .bool kd.f1, .slice B2 kd.f2.length d2, .slice B3 kd.f3.length d3, .slice B4 kd.f4.length d4] 29))
      have R6 := Aside0.mk (Kd.R_alloc R5.out (.cells #[.bool kd.f0, .bool kd.f1, .slice B2 kd.f2.length d2, .slice B3 kd.f3.length d3, .slice B4 kd.f4.length d4] 29))
      clear q0 q1 q2 q3 q4 d5 d6 i0 i1 A5 M5 B5 R5 hcc hcl hfk hF5 HF5
      generalize wr.alloc (.cells #[.bool kd.f0, .bool kd.f1, .slice B2 kd.f2.length d2, .slice B3 kd.f3.length d3, .slice B4 kd.f4.length d4] 29) = w6 at X6 A6 L6 M6 B6 R6 ⊢
      generalize wr.heap.size = b7 at X6 ⊢
      have HC := Aside0.mk (show w6.cell? ⟨b5, 4, none⟩ = some v4 ∧ w6.cell? ⟨b7, 0, none⟩ = some (.bool kd.f0) ∧ w6.cell? ⟨b7, 1, none⟩ = some (.bool kd.f1) ∧ w6.cell? ⟨b7, 2, none⟩ = some (.slice B2 kd.f2.length d2) ∧ w6.cell? ⟨b7, 3, none⟩ = some (.slice B3 kd.f3.length d3) ∧ w6.cell? ⟨b7, 4, none⟩ = some (.slice B4 kd.f4.length d4) from ⟨(blk_cell (B6.out.1) 4).trans rfl, (blk_cell (X6.out.1) 0).trans rfl, (blk_cell (X6.out.1) 1).trans rfl, (blk_cell (X6.out.1) 2).trans rfl, (blk_cell (X6.out.1) 3).trans rfl, (blk_cell (X6.out.1) 4).trans rfl⟩)
      refine ordStart (n := 11) (S := fun w' => w'.cell? ⟨b5, 4, none⟩ = some v4 ∧ w'.cell? ⟨b7, 0, none⟩ = some (.bool kd.f0) ∧ w'.cell? ⟨b7, 1, none⟩ = some (.bool kd.f1) ∧ w'.cell? ⟨b7, 2, none⟩ = some (.slice B2 kd.f2.length d2) ∧ w'.cell? ⟨b7, 3, none⟩ = some (.slice B3 kd.f3.length d3) ∧ w'.cell? ⟨b7, 4, none⟩ = some (.slice B4 kd.f4.length d4)) (ds := [10]) (by kernel_rfl) rfl tabMade5 bitsMade5 HC.out (fun hHeld HT_ HW_ => ?_)
      have A6 := Aside0.mk (A6.out.step (w1 := w6.drew) (Nat.le_refl _) (fun _ _ _ => rfl))
      have M6 := Aside0.mk M6.out.drew
      have L6 := Aside0.mk L6.out.drew
      have B6 := Aside0.mk (B6.out.moves (Moves.drew (Moves.refl _ _)))
      have X6 := Aside0.mk (X6.out.moves (Moves.drew (Moves.refl _ _)))
      have R6 := Aside0.mk (Kd.R_drew R6.out)
      clear HC
      generalize w6.drew = w8 at A6 L6 M6 B6 X6 R6 hHeld ⊢
      refine ord_ [(0, some 28), (1, some 29), (2, some 30), (3, some 31), (4, some 32)] ?_
      iterate 2 (refine ordP (v := ?_) (a' := ?_) HT_ (by kernel_rfl) rfl rfl (fun _ _ _ h => h) (Or.inl ⟨by rfl, ?_⟩) ?_ ?_; rotate_left; (intro w'; go_simp; with_reducible rfl); rotate_left; (simp only [Act.put, p1_, p2_, p3_, i64_w, i32_w]; rfl))
      iterate 3 (refine ordT (v := ?_) (a' := ?_) HT_ HW_ (by kernel_rfl) rfl rfl (fun _ _ _ h => h) hHeld (Or.inl ⟨by rfl, ?_⟩) ?_ ?_; rotate_left; (rintro w' ⟨s0, s1, s2, s3, s4, s5⟩; go_simp; with_reducible rfl); rotate_left; (simp only [Act.put, p1_, p2_, p3_, i64_w, i32_w]; rfl))
      refine ordNil ?_
      refine ordOne (i := 5) (some 33) HT_ (by kernel_rfl) rfl rfl (by decide) (fun K_ hK => ?_)
      refine call_ 111 #[.pointer (some ⟨pA, 0, none⟩), .agg #[.bool kd.f0, .bool kd.f1, .slice B2 kd.f2.length d2, .slice B3 kd.f3.length d3, .slice B4 kd.f4.length d4]] (by rfl) rfl ?hrun5 ?_
      (case hrun5 => first | (go_simp; done) | (go_simp; exact enters Tryz.func111 (by kernel_rfl) rfl _ _))
      refine (ih _ HLT.out kd (Nat.le_refl _) pA okc ac ax x _ _ A6.out (FK_moves HFK.out L6.out) HTX.out).mono ?_
      rintro e w9 ⟨ok9, rfl, hA9, hM9⟩
      have A9 := Aside0.mk hA9
      have M9 := Aside0.mk (M6.out.trans hM9)
      have B9 := Aside0.mk (B6.out.moves hM9)
      have X9 := Aside0.mk (X6.out.moves hM9)
      have R9 := Aside0.mk (ways_moves R6.out hM9)
      clear hA9 hM9 R6
      refine ⟨_, rfl, ?_⟩
      refine hK.out _ _ ⟨(blk_cell (B9.out.1) 4).trans rfl, (blk_cell (X9.out.1) 0).trans rfl, (blk_cell (X9.out.1) 1).trans rfl, (blk_cell (X9.out.1) 2).trans rfl, (blk_cell (X9.out.1) 3).trans rfl, (blk_cell (X9.out.1) 4).trans rfl⟩ (fun hHeld => ?_)
      clear hK K_
      refine norm_ (a' := ?_) ?_ ?_
      rotate_left; · show Act.put _ (some 33) _ = _; simp only [Act.put, p1_, p2_, p3_, i64_w, i32_w]; rfl
      refine ordOne (i := 6) (some 34) HT_ (by kernel_rfl) rfl rfl (by decide) (fun K_ hK => ?_)
      refine value_ (v := .slice (some ⟨w9.heap.size, 0, none⟩) 1 1) (w1 := w9.alloc (.cells #[.int .i64 x] 45)) (by rfl) rfl (by go_simp) ?_
      have A10 := Aside0.mk (A9.out.step (w1 := w9.alloc (.cells #[.int .i64 x] 45)) (by simp) (fun k _ hk => Below.heap_alloc _ _ _ hk))
      have M10 := Aside0.mk (M9.out.alloc (.cells #[.int .i64 x] 45))
      have B10 := Aside0.mk (B9.out.alloc (.cells #[.int .i64 x] 45))
      have X10 := Aside0.mk (X9.out.alloc (.cells #[.int .i64 x] 45))
      have R10 := Aside0.mk (Kd.R_alloc (ways_bound R9.out) (.cells #[.int .i64 x] 45))
      have hbx := blk_new w9 (.cells #[.int .i64 x] 45)
      have N10 := Aside0.mk (fun h => Nat.lt_irrefl _ (A9.out.lt _ h) : ¬ ok9 w9.heap.size)
      have hs9 := M9.out.size
      refine hK.out _ _ ⟨(blk_cell (B10.out.1) 4).trans rfl, (blk_cell (X10.out.1) 0).trans rfl, (blk_cell (X10.out.1) 1).trans rfl, (blk_cell (X10.out.1) 2).trans rfl, (blk_cell (X10.out.1) 3).trans rfl, (blk_cell (X10.out.1) 4).trans rfl⟩ (fun hHeld => ?_)
      clear hK K_
      refine norm_ (a' := ?_) ?_ ?_
      rotate_left; · show Act.put _ (some 34) _ = _; simp only [Act.put, p1_, p2_, p3_, i64_w, i32_w]; rfl
      refine ordOne (i := 7) (some 35) HT_ (by kernel_rfl) rfl rfl (by decide) (fun K_ hK => ?_)
      generalize w9.alloc (.cells #[.int .i64 x] 45) = w10 at A10 M10 B10 X10 R10 hbx hHeld ⊢
      refine Kd.R_append_rows_step (Kd.int .i64) (w0 := w10) w.heap.size (by rfl) (.tmp 30) (.tmp 34) 112 45 (.int .i64 0) 8 rfl Tryz.underlying112 (by kernel_rfl) rfl (by decide) (by omega) v4 acc [x] (some ⟨w9.heap.size, 0, none⟩) 1 1 (fun k => (¬ ok9 k ∧ k ≠ b5) ∨ w10.heap.size ≤ k) (fun _ => False) (by rfl) (by rfl) (Kd.R_mono R10.out (fun k hk => .inl hk.1)) (Kd.F_now (one_F (d := Kd.int .i64) (ok := fun _ => False) (cs := [.int .i64 x]) hbx (fun W _ => rfl))) (fun y cs h => h) (fun _ hk => hk.elim) (fun k hk => .inr hk) (Below.refl _ _) M10.out.size (by have := HA60.out; omega) ?_
      intro v1 w11 hR _ hg hat
      have hnb : ∀ k, v4.ownBlock = some k → ¬ ok9 k ∧ k ≠ b5 := fun k hk => (R10.out.1 k hk).1
      have hlt5 := blk_lt B10.out.1
      have A11 := Aside0.mk (A10.out.step hg.size (fun k hk hlt => hg.block k hlt (fun e => (hnb k e.symm).1 hk)))
      have M11 := Aside0.mk (M10.out.grown hg (fun k hk => .inr (Kd.R_base R10.out k hk)))
      have B11 : Aside0 (Mine ok9 w11 b5 (nbO (!s.f0) s.f1 (.slice A2 s.f2.length c2) (.slice A3 s.f3.length c3) v4)) := ⟨⟨(hg.block b5 hlt5 (fun e => (hnb b5 e.symm).2 rfl)).trans B10.out.1, B10.out.2⟩⟩
      have R11 := Aside0.mk (Kd.R_mono hR (fun k hk => hk.elim id (fun h => ⟨fun h1 => by have := A10.out.lt k h1; omega, by omega⟩)) : (Kd.int .i64).R 45 w11 w.heap.size (fun k => ¬ ok9 k ∧ k ≠ b5) v1 (acc ++ [x]))
      have X11 := Aside0.mk ((hg.block b7 (blk_lt X10.out.1) (fun e => Kd.R_ne R10.out X10.out.1 (by decide) e)).trans X10.out.1)
      obtain ⟨ad1, c1, hv1⟩ := Kd.R_slice1 R11.out (by simp)
      subst hv1
      clear A10 M10 hR hat hbx
      refine hK.out _ _ ⟨(blk_cell (B11.out.1) 4).trans rfl, (blk_cell (X11.out) 0).trans rfl, (blk_cell (X11.out) 1).trans rfl, (blk_cell (X11.out) 2).trans rfl, (blk_cell (X11.out) 3).trans rfl, (blk_cell (X11.out) 4).trans rfl⟩ (fun hHeld => ?_)
      clear hK K_
      refine norm_ (a' := ?_) ?_ ?_
      rotate_left; · show Act.put _ (some 35) _ = _; simp only [Act.put, p1_, p2_, p3_, i64_w, i32_w]; rfl
      refine ord_ [(8, some 36), (9, some 37)] ?_
      iterate 2 (refine ordP (v := ?_) (a' := ?_) HT_ (by kernel_rfl) rfl rfl (fun _ _ _ h => h) (Or.inl ⟨by rfl, ?_⟩) ?_ ?_; rotate_left; (intro w'; go_simp; with_reducible rfl); rotate_left; (simp only [Act.put, p1_, p2_, p3_, i64_w, i32_w]; rfl))
      refine ordNil ?_
      have y4 := (blk_cell B11.out.1 4).trans (rfl : _ = some v4)
      have z4 := blk_frozen B11.out.1 4
      refine ordLast (i := 10) none HT_ (by kernel_rfl) rfl rfl (by decide) (fun K_ hK => ?_)
      refine skip_ (w1 := ?_) (by rfl) rfl ?_ ?_
      rotate_left; · go_simp; rfl
      refine hK.out _ _ ?_
      clear hK K_
      refine done_ (done_of HT_.out (by kernel_rfl)) ?_
      have R12 : Aside0 ((Kd.int .i64).R 45 (w11.setCell ⟨b5, 4, none⟩ (.slice (some ad1) (acc.length + 1) c1)) w.heap.size (fun k => ¬ ok9 k ∧ k ≠ b5) (.slice (some ad1) (acc.length + 1) c1) (acc ++ [x])) := ⟨by
        have h1 := Kd.R_set R11.out B11.out.1 (by decide) 4 (.slice (some ad1) (acc.length + 1) c1)
        rw [show (acc ++ [x]).length = acc.length + 1 from by simp] at h1
        exact h1⟩
      have B12 := Aside0.mk (B11.out.set 4 (.slice (some ad1) (acc.length + 1) c1))
      have A12 := Aside0.mk (A11.out.step (w1 := w11.setCell ⟨b5, 4, none⟩ (.slice (some ad1) (acc.length + 1) c1)) (by simp [World.setCell]) (fun k hk _ => Below.heap_setCell _ _ _ k (fun e => B11.out.2 (by rw [show k = b5 from e] at hk; exact hk))))
      have M12 := Aside0.mk (M11.out.set (p := ⟨b5, 4, none⟩) (.inr H5.out) (.slice (some ad1) (acc.length + 1) c1))
      have HT12 : Aside0 (s.f4 = s.f4.take (i + 1) ++ ks ∧ i + 1 + ks.length = s.f4.length ∧ (acc ++ [x]).length = i + 1 ∧ madeL ks ax = some (ws1, aE) ∧ acc ++ [x] ++ ws1 = ws) := ⟨by
        obtain ⟨e1, e2, e3, e4, e5⟩ := HT.out
        rw [List.length_cons] at e2
        refine ⟨?_, by omega, by rw [List.length_append, e3]; rfl, HTY.out, HWS.out⟩
        have h1 : s.f4.drop i = kd :: ks := by
          have := congrArg (List.drop i) e1
          rw [List.drop_append_of_le_length (by rw [List.length_take]; omega), List.drop_of_length_le (by rw [List.length_take]; omega : (s.f4.take i).length ≤ i)] at this
          exact this
        have h2 : s.f4.drop (i + 1) = ks := by rw [← List.drop_drop, h1]; rfl
        rw [← h2, List.take_append_drop]⟩
      clear A11 M11 B11 R11 X11 hHeld y4 z4
      generalize w11.setCell ⟨b5, 4, none⟩ (.slice (some ad1) (acc.length + 1) c1) = w12 at R12 B12 A12 M12 ⊢
      have hi := HT12.out.2.1
      go_wp2_with fail
      have hi2 : i ≤ 1000000 := by have := HA60.out; have := HT.out.2.2.1; omega
      exact ⟨⟨ok9, ax, acc ++ [x], ks, i + 1, _, ws1, by rw [wrap_mill i hi2], HT12, A12, M12, B12, R12⟩, meas_mill (by omega) hi2⟩
theorem made_calls {pA : Nat} {ok : Nat → Prop} {a a1 : Ar} {r : Int} {w : World} {cs : List Value} (s : Sh) (h : IsArena ok pA a w) (hf : kSh.FK w (fun k => ¬ ok k) s cs) (hr : madeT s a = some (r, a1)) :
    Calls Tryz.prog 111 #[.pointer (some ⟨pA, 0, none⟩), .agg cs.toArray] w (fun e w1 => ∃ ok1, e = .returned (.int .i64 r) ∧ IsArena ok1 pA a1 w1 ∧ Moves ok ok1 w w1) := by
  suffices hh : ∀ N, ∀ (s : Sh), SizeOf.sizeOf s ≤ N → ∀ (pA : Nat) (ok : Nat → Prop) (a a1 : Ar) (r : Int) (w : World) (cs : List Value), IsArena ok pA a w → kSh.FK w (fun k => ¬ ok k) s cs → madeT s a = some (r, a1) → Calls Tryz.prog 111 #[.pointer (some ⟨pA, 0, none⟩), .agg cs.toArray] w (fun e w1 => ∃ ok1, e = .returned (.int .i64 r) ∧ IsArena ok1 pA a1 w1 ∧ Moves ok ok1 w w1) from
    hh _ s (Nat.le_refl _) pA ok a a1 r w cs h hf hr
  intro N
  induction N using Nat.strongRecOn with
  | ind N ih => exact fun s hs pA ok a a1 r w cs h hf hr => made_walk N ih s hs pA ok a a1 r w cs h hf hr
def plantT (s : Sh) (x : Ws) : Option Ws :=
  (madeT s (x.ar.way x.entry 0).2).bind fun q =>
    let p := q.2.swapWay x.entry 0 (x.ar.way x.entry 0).1 q.1
    if x.ar.slots.length < 1000000 ∧ q.2.slots.length < 1000000 ∧ p.2.slots.length < 1000000 ∧ p.2.free.length < 1000000 then some { x with ar := (p.2.free_ (x.ar.way x.entry 0).1).2 } else none
def TPlant1 : Bool × List (List Nat × List Nat) := (true, [([], []), ([0], [0]), ([1], [1]), ([2], [2]), ([], []), ([4], [4]), ([5], [5]), ([6], [6]), ([3, 7], [3, 7]), ([8, 8, 0, 1, 2, 3, 4, 5, 6, 7, 8], [8])])
def BPlant1 : List Nat := [0, 1, 3, 7, 0, 16, 48, 112, 255, 511]
theorem tabPlant1 : rtab .any (opsOf Tryz.f71 1) = TPlant1 := by kernel_rfl
theorem bitsPlant1 : waitsOk TPlant1.2 BPlant1 = true := by kernel_rfl
def TPlant2 : Bool × List (List Nat × List Nat) := (true, [([], []), ([0], [0]), ([1], [1]), ([2], [2]), ([], []), ([4], [4]), ([5], [5]), ([6], [6]), ([], []), ([], []), ([9], [9]), ([10], [10]), ([11], [11]), ([], []), ([12, 13], [12, 13]), ([3, 7, 8, 14, 14], [3, 7, 8, 14])])
def BPlant2 : List Nat := [0, 1, 3, 7, 0, 16, 48, 112, 0, 0, 512, 1536, 3584, 0, 15872, 32767]
theorem tabPlant2 : rtab .any (opsOf Tryz.f71 2) = TPlant2 := by kernel_rfl
theorem bitsPlant2 : waitsOk TPlant2.2 BPlant2 = true := by kernel_rfl
theorem fk_world {α : Type} {d : Kd α} {ok okA okR okE : Nat → Prop} {p pA pR pE : Nat} {x : Ws} {w : World} {y : α} {cs : List Value} (h : d.FK w (fun k => ¬ ok k) y cs) (hw : WorldAt ok okA okR okE p pA pR pE x w) : d.FK w (fun k => ¬ okA k) y cs := Kd.FK_mono h (fun k hk h1 => hk ((hw.ok k).2 (.inr (.inl h1))))
set_option maxHeartbeats 4000000 in
set_option maxRecDepth 100000 in
theorem plant_calls {ok : Nat → Prop} {p : Nat} {x x1 : Ws} (s : Sh) (w : World) (cs : List Value) (h : IsWorld p x ok w) (hf : kSh.FK w (fun k => ¬ ok k) s cs) (hx : plantT s x = some x1) :
    Calls Tryz.prog 71 #[.pointer (some ⟨p, 0, none⟩), .agg cs.toArray] w (fun e w1 => e = .returned (.tuple #[]) ∧ ∃ ok1, IsWorld p x1 ok1 w1 ∧ Moves ok ok1 w w1) := by
  obtain ⟨okA, okR, okE, pA, pR, pE, h⟩ := h
  unfold plantT at hx
  obtain ⟨q, hq, hx⟩ := Option.bind_eq_some_iff.1 hx
  obtain ⟨r, a1⟩ := q
  simp only at hx
  split at hx
  rotate_left; · cases hx
  rename_i hl
  injection hx with hx
  have HX := Aside0.mk hx
  have HL := Aside0.mk (And.intro (show (x.ar).slots.length < 1000000 from hl.1) hl.2)
  have HQ := Aside0.mk hq
  obtain ⟨A2, c2, A3, c3, A4, c4, rfl, _⟩ := k29_openF hf
  have HFK := Aside0.mk hf
  have hW1 := (h.step (w1 := w.alloc (.cells #[.bool s.f0, .bool s.f1, .slice A2 s.f2.length c2, .slice A3 s.f3.length c3, .slice A4 s.f4.length c4] 29)) (by simp) (fun k _ hk => Below.heap_alloc _ _ _ hk))
  have hX1 := Mine.new (ok := ok) (fun k hk => h.lt k hk) (.cells #[.bool s.f0, .bool s.f1, .slice A2 s.f2.length c2, .slice A3 s.f3.length c3, .slice A4 s.f4.length c4] 29)
  have X1 := Aside0.mk hX1
  have W1 := Aside0.mk hW1
  have M1 := Aside0.mk ((Moves.refl ok w).alloc (.cells #[.bool s.f0, .bool s.f1, .slice A2 s.f2.length c2, .slice A3 s.f3.length c3, .slice A4 s.f4.length c4] 29))
  clear h hf hq hx hl hX1 hW1
  go_enter Tryz.func71, Tryz.ntmps71
  go_upto_region 1 with fail
  generalize w.alloc (.cells #[.bool s.f0, .bool s.f1, .slice A2 s.f2.length c2, .slice A3 s.f3.length c3, .slice A4 s.f4.length c4] 29) = w1 at X1 W1 M1 ⊢
  generalize w.heap.size = b3 at X1 ⊢
  have HC := Aside0.mk (show w1.cell? ⟨p, 0, none⟩ = some (.pointer (some ⟨pA, 0, none⟩)) ∧ w1.cell? ⟨p, 5, none⟩ = some (.int .i64 x.entry) ∧ w1.cell? ⟨b3, 0, none⟩ = some (.bool s.f0) ∧ w1.cell? ⟨b3, 1, none⟩ = some (.bool s.f1) ∧ w1.cell? ⟨b3, 2, none⟩ = some (.slice A2 s.f2.length c2) ∧ w1.cell? ⟨b3, 3, none⟩ = some (.slice A3 s.f3.length c3) ∧ w1.cell? ⟨b3, 4, none⟩ = some (.slice A4 s.f4.length c4) from ⟨(blk_cell (W1.out.box) 0).trans rfl, (blk_cell (W1.out.box) 5).trans rfl, (blk_cell (X1.out.1) 0).trans rfl, (blk_cell (X1.out.1) 1).trans rfl, (blk_cell (X1.out.1) 2).trans rfl, (blk_cell (X1.out.1) 3).trans rfl, (blk_cell (X1.out.1) 4).trans rfl⟩)
  refine ordStart (n := 10) (S := fun w' => w'.cell? ⟨p, 0, none⟩ = some (.pointer (some ⟨pA, 0, none⟩)) ∧ w'.cell? ⟨p, 5, none⟩ = some (.int .i64 x.entry) ∧ w'.cell? ⟨b3, 0, none⟩ = some (.bool s.f0) ∧ w'.cell? ⟨b3, 1, none⟩ = some (.bool s.f1) ∧ w'.cell? ⟨b3, 2, none⟩ = some (.slice A2 s.f2.length c2) ∧ w'.cell? ⟨b3, 3, none⟩ = some (.slice A3 s.f3.length c3) ∧ w'.cell? ⟨b3, 4, none⟩ = some (.slice A4 s.f4.length c4)) (ds := []) (by kernel_rfl) rfl tabPlant1 bitsPlant1 HC.out (fun hHeld HT_ HW_ => ?_)
  have W2 := Aside0.mk (W1.out.step (w1 := w1.drew) (Nat.le_refl _) (fun _ _ _ => rfl))
  have M2 := Aside0.mk M1.out.drew
  have X2 := Aside0.mk (X1.out.moves (Moves.drew (Moves.refl _ _)))
  clear HC W1 M1 X1
  generalize w1.drew = w2 at W2 M2 X2 hHeld ⊢
  refine ord_ [(0, some 5), (1, some 6), (2, some 7), (3, some 8), (4, some 9), (5, some 10), (6, some 11), (7, some 12)] ?_
  iterate 3 (refine ordP (v := ?_) (a' := ?_) HT_ (by kernel_rfl) rfl rfl (fun _ _ _ h => h) (Or.inl ⟨by rfl, ?_⟩) ?_ ?_; rotate_left; (intro w'; go_simp; with_reducible rfl); rotate_left; (simp only [Act.put, p1_, p2_, p3_, i64_w, i32_w]; rfl))
  iterate 5 (refine ordT (v := ?_) (a' := ?_) HT_ HW_ (by kernel_rfl) rfl rfl (fun _ _ _ h => h) hHeld (Or.inl ⟨by rfl, ?_⟩) ?_ ?_; rotate_left; (rintro w' ⟨s0, s1, s2, s3, s4, s5, s6⟩; go_simp; with_reducible rfl); rotate_left; (simp only [Act.put, p1_, p2_, p3_, i64_w, i32_w]; rfl))
  refine ordNil ?_
  refine ordOne (i := 8) (some 13) HT_ (by kernel_rfl) rfl rfl (by decide) (fun K_ hK => ?_)
  refine call_ 77 #[.pointer (some ⟨pA, 0, none⟩), .int .i64 x.entry, .int .i64 0] (by rfl) rfl ?hrun8 ?_
  (case hrun8 => first | (go_simp; done) | (go_simp; exact enters Tryz.func77 (by kernel_rfl) rfl _ _))
  refine (way_calls x.entry 0 w2 W2.out.ar HL.out.1).mono ?_
  rintro e w3 ⟨rfl, hA3, hM3⟩
  have W3 := Aside0.mk (W2.out.ar_moves hA3 hM3).1
  have N3 := Aside0.mk (W2.out.ar_moves hA3 hM3).2
  have M3 := Aside0.mk (M2.out.trans N3.out)
  have X3 := Aside0.mk (X2.out.moves N3.out)
  clear hA3 hM3 W2 M2 X2 N3
  refine ⟨_, rfl, ?_⟩
  refine hK.out _ _ ⟨(blk_cell (W3.out.box) 0).trans rfl, (blk_cell (W3.out.box) 5).trans rfl, (blk_cell (X3.out.1) 0).trans rfl, (blk_cell (X3.out.1) 1).trans rfl, (blk_cell (X3.out.1) 2).trans rfl, (blk_cell (X3.out.1) 3).trans rfl, (blk_cell (X3.out.1) 4).trans rfl⟩ (fun hHeld => ?_)
  clear hK K_
  refine norm_ (a' := ?_) ?_ ?_
  rotate_left; · show Act.put _ (some 13) _ = _; simp only [Act.put, p1_, p2_, p3_, i64_w, i32_w]; rfl
  refine ord_ [(9, some 4)] ?_
  (refine ordP (v := ?_) (a' := ?_) HT_ (by kernel_rfl) rfl rfl (fun _ _ _ h => h) (Or.inl ⟨by rfl, ?_⟩) ?_ ?_; rotate_left; (intro w'; go_simp; with_reducible rfl); rotate_left; (simp only [Act.put, p1_, p2_, p3_, i64_w, i32_w]; rfl))
  refine ordNil ?_
  refine done_ (done_of HT_.out (by kernel_rfl)) ?_
  have HC := Aside0.mk (show w3.cell? ⟨p, 0, none⟩ = some (.pointer (some ⟨pA, 0, none⟩)) ∧ w3.cell? ⟨p, 5, none⟩ = some (.int .i64 x.entry) ∧ w3.cell? ⟨b3, 0, none⟩ = some (.bool s.f0) ∧ w3.cell? ⟨b3, 1, none⟩ = some (.bool s.f1) ∧ w3.cell? ⟨b3, 2, none⟩ = some (.slice A2 s.f2.length c2) ∧ w3.cell? ⟨b3, 3, none⟩ = some (.slice A3 s.f3.length c3) ∧ w3.cell? ⟨b3, 4, none⟩ = some (.slice A4 s.f4.length c4) from ⟨(blk_cell (W3.out.box) 0).trans rfl, (blk_cell (W3.out.box) 5).trans rfl, (blk_cell (X3.out.1) 0).trans rfl, (blk_cell (X3.out.1) 1).trans rfl, (blk_cell (X3.out.1) 2).trans rfl, (blk_cell (X3.out.1) 3).trans rfl, (blk_cell (X3.out.1) 4).trans rfl⟩)
  go_upto_region 2 with fail
  refine ordStart (n := 16) (S := fun w' => w'.cell? ⟨p, 0, none⟩ = some (.pointer (some ⟨pA, 0, none⟩)) ∧ w'.cell? ⟨p, 5, none⟩ = some (.int .i64 x.entry) ∧ w'.cell? ⟨b3, 0, none⟩ = some (.bool s.f0) ∧ w'.cell? ⟨b3, 1, none⟩ = some (.bool s.f1) ∧ w'.cell? ⟨b3, 2, none⟩ = some (.slice A2 s.f2.length c2) ∧ w'.cell? ⟨b3, 3, none⟩ = some (.slice A3 s.f3.length c3) ∧ w'.cell? ⟨b3, 4, none⟩ = some (.slice A4 s.f4.length c4)) (ds := []) (by kernel_rfl) rfl tabPlant2 bitsPlant2 HC.out (fun hHeld HT_ HW_ => ?_)
  have W4 := Aside0.mk (W3.out.step (w1 := w3.drew) (Nat.le_refl _) (fun _ _ _ => rfl))
  have M4 := Aside0.mk M3.out.drew
  have X4 := Aside0.mk (X3.out.moves (Moves.drew (Moves.refl _ _)))
  clear HC W3 M3 X3
  generalize w3.drew = w4 at W4 M4 X4 hHeld ⊢
  refine ord_ [(0, some 14), (1, some 15), (2, some 16), (3, some 17), (4, some 18), (5, some 19), (6, some 20), (7, some 21), (8, some 22), (9, some 23), (10, some 24), (11, some 25), (12, some 26), (13, some 27)] ?_
  iterate 3 (refine ordP (v := ?_) (a' := ?_) HT_ (by kernel_rfl) rfl rfl (fun _ _ _ h => h) (Or.inl ⟨by rfl, ?_⟩) ?_ ?_; rotate_left; (intro w'; go_simp; with_reducible rfl); rotate_left; (simp only [Act.put, p1_, p2_, p3_, i64_w, i32_w]; rfl))
  iterate 11 (refine ordT (v := ?_) (a' := ?_) HT_ HW_ (by kernel_rfl) rfl rfl (fun _ _ _ h => h) hHeld (Or.inl ⟨by rfl, ?_⟩) ?_ ?_; rotate_left; (rintro w' ⟨s0, s1, s2, s3, s4, s5, s6⟩; go_simp; with_reducible rfl); rotate_left; (simp only [Act.put, p1_, p2_, p3_, i64_w, i32_w]; rfl))
  refine ordNil ?_
  refine ordOne (i := 14) (some 28) HT_ (by kernel_rfl) rfl rfl (by decide) (fun K_ hK => ?_)
  refine call_ 111 #[.pointer (some ⟨pA, 0, none⟩), .agg #[.bool s.f0, .bool s.f1, .slice A2 s.f2.length c2, .slice A3 s.f3.length c3, .slice A4 s.f4.length c4]] (by rfl) rfl ?hrun14 ?_
  (case hrun14 => first | (go_simp; done) | (go_simp; exact enters Tryz.func111 (by kernel_rfl) rfl _ _))
  refine (made_calls (pA := pA) (a := (x.ar.way x.entry 0).2) s W4.out.ar (fk_world (FK_moves HFK.out M4.out) W4.out) HQ.out).mono ?_
  rintro e w5 ⟨okA5, rfl, hA5, hM5⟩
  have W5 := Aside0.mk (W4.out.ar_moves hA5 hM5).1
  have N5 := Aside0.mk (W4.out.ar_moves hA5 hM5).2
  have M5 := Aside0.mk (M4.out.trans N5.out)
  have X5 := Aside0.mk (X4.out.moves N5.out)
  clear hA5 hM5 W4 M4 X4 N5
  refine ⟨_, rfl, ?_⟩
  refine hK.out _ _ ⟨(blk_cell (W5.out.box) 0).trans rfl, (blk_cell (W5.out.box) 5).trans rfl, (blk_cell (X5.out.1) 0).trans rfl, (blk_cell (X5.out.1) 1).trans rfl, (blk_cell (X5.out.1) 2).trans rfl, (blk_cell (X5.out.1) 3).trans rfl, (blk_cell (X5.out.1) 4).trans rfl⟩ (fun hHeld => ?_)
  clear hK K_
  refine norm_ (a' := ?_) ?_ ?_
  rotate_left; · show Act.put _ (some 28) _ = _; simp only [Act.put, p1_, p2_, p3_, i64_w, i32_w]; rfl
  refine ordOne (i := 15) (some 29) HT_ (by kernel_rfl) rfl rfl (by decide) (fun K_ hK => ?_)
  refine call_ 110 #[.pointer (some ⟨pA, 0, none⟩), .int .i64 x.entry, .int .i64 0, .int .i64 (x.ar.way x.entry 0).1, .int .i64 r] (by rfl) rfl ?hrun15 ?_
  (case hrun15 => first | (go_simp; done) | (go_simp; exact enters Tryz.func110 (by kernel_rfl) rfl _ _))
  refine (swapWay_calls x.entry 0 _ r w5 W5.out.ar HL.out.2.1).mono ?_
  rintro e w6 ⟨rfl, hA6, hM6⟩
  have W6 := Aside0.mk (W5.out.ar_moves hA6 hM6).1
  have N6 := Aside0.mk (W5.out.ar_moves hA6 hM6).2
  have M6 := Aside0.mk (M5.out.trans N6.out)
  have X6 := Aside0.mk (X5.out.moves N6.out)
  clear hA6 hM6 W5 M5 X5 N6
  refine ⟨_, rfl, ?_⟩
  refine hK.out _ _ ⟨(blk_cell (W6.out.box) 0).trans rfl, (blk_cell (W6.out.box) 5).trans rfl, (blk_cell (X6.out.1) 0).trans rfl, (blk_cell (X6.out.1) 1).trans rfl, (blk_cell (X6.out.1) 2).trans rfl, (blk_cell (X6.out.1) 3).trans rfl, (blk_cell (X6.out.1) 4).trans rfl⟩ (fun hHeld => ?_)
  clear hK K_
  refine norm_ (a' := ?_) ?_ ?_
  rotate_left; · show Act.put _ (some 29) _ = _; simp only [Act.put, p1_, p2_, p3_, i64_w, i32_w]; rfl
  refine done_ (done_of HT_.out (by kernel_rfl)) ?_
  have y0 := (blk_cell W6.out.box 0).trans (rfl : _ = some (Value.pointer (some ⟨pA, 0, none⟩)))
  clear hHeld
  go_wp2_with (go_at_call 112; refine (free_calls _ _ W6.out.ar HL.out.2.2.1 HL.out.2.2.2).mono ?_; rintro e w7 ⟨rfl, okA7, hA7, hM7⟩; have W7 := Aside0.mk (W6.out.ar_moves hA7 hM7).1; have M7 := Aside0.mk (M6.out.trans (W6.out.ar_moves hA7 hM7).2); clear hA7 hM7)
  go_end0
  exact ⟨rfl, _, by rw [← HX.out]; exact ⟨_, _, _, _, _, _, W7.out⟩, M7.out⟩
end Go.Proofs.YtelmidpepojbdaaGreat.Tower
namespace Go.Proofs.YtelmidpepojbdaaGreat.PMendRight
open Go.RowKit Go.Proofs.YtelmidpepojbdaaGreatW.PrintWords Go.Proofs.YtelmidpepojbdaaGreatW.PrintLast Go.Proofs.YtelmidpepojbdaaGreatW.PrintMore
attribute [local go_sem] max2_int min2_int max_two min_two max_three min_three max_four min_four
set_option linter.unusedVariables false
set_option linter.unusedSimpArgs false
theorem eqA106 (d : Nat) (w : World) (x0 y0 : Int) (x1 y1 : Int) :
    (Op.equalIn (d + 2) 106 (.agg #[.int .i64 x0, .int .i64 x1]) (.agg #[.int .i64 y0, .int .i64 y1])).run Tryz.prog w = .ok (x0 == y0 && (x1 == y1)) w := by
  refine eqA_of Tryz.underlying106 (by kernel_rfl) ?_
  refine eqf_cons (by rfl) (by go_simp; rfl) (by go_simp; rfl) (by go_simp) ?_
  exact eqf_last (by rfl) (by go_simp; rfl) (by go_simp; rfl) (by go_simp)
end Go.Proofs.YtelmidpepojbdaaGreat.PMendRight
