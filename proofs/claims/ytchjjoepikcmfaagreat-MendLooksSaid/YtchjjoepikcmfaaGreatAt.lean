/- A reference's place in the arena: ref.Of, Ref.Place, (*Arena).at, walked. -/
import Derived.Test.YtchjjoepikcmfaaGreatArena
namespace Go.Proofs.YtchjjoepikcmfaaGreat.Tower
open Go Go.RowKit Go.Proofs.YtchjjoepikcmfaaGreatW.PrintWords Go.Proofs.YtchjjoepikcmfaaGreatW.PrintLast Go.Proofs.YtchjjoepikcmfaaGreatW.PrintMore Go.Proofs.YtchjjoepikcmfaaGreat.Own
set_option linter.unusedVariables false
set_option linter.unusedSimpArgs false

def refOf (i c : Int) : Int := Go.bits .or .i64 (wrap64 ((wrap64 (Go.bits .and .u32 c 8388607)) * 1099511627776)) (Go.bits .and .i64 (wrap64 (i + 1)) 1099511627775)
def placeOf (r : Int) : Int := wrap64 (Go.bits .and .i64 r 1099511627775 - 1)

set_option maxHeartbeats 2000000 in
set_option maxRecDepth 100000 in
theorem ref_of (i c : Int) (w : World) : Calls Tryz.prog 105 #[.int .i64 i, .int .u32 c] w fun e w' => e = .returned (.int .i64 (refOf i c)) ∧ w' = w := by
  go_enter Tryz.func105, Tryz.ntmps105
  go_wp2
  go_ret
  exact ⟨rfl, rfl⟩
set_option maxHeartbeats 2000000 in
set_option maxRecDepth 100000 in
theorem ref_place (r : Int) (w : World) : Calls Tryz.prog 109 #[.int .i64 r] w fun e w' => e = .returned (.int .i64 (placeOf r)) ∧ w' = w := by
  go_enter Tryz.func109, Tryz.ntmps109
  go_wp2
  go_ret
  exact ⟨rfl, rfl⟩

set_option maxHeartbeats 2000000 in
set_option maxRecDepth 100000 in
theorem at_hit {ok : Nat → Prop} {pA g n cap : Nat} {fv : Value} {lv : Nat → Lv} {ρ : Nat → Nat} {a : Ar} (r : Int) (i : Nat) (s : Sl) (w : World) (h : ArenaAt ok pA (.slice (some ⟨g, 0, none⟩) n cap) fv lv ρ a w)
    (hi : a.slots[i]? = some s) (hp : placeOf r = (i : Int)) (hu : s.used = true) (hr : refOf i s.count = r) (hl : a.slots.length < 1000000) :
    Calls Tryz.prog 100 #[.pointer (some ⟨pA, 0, none⟩), .int .i64 r] w fun e w' => e = .returned (.pointer (some ⟨g, i * 10, none⟩)) ∧ w' = w := by
  obtain ⟨rfl, g0, e0, hg, hρ, hcc, hfz⟩ := h.cells hi
  injection e0 with e0
  injection e0 with e0 _ _
  subst e0
  have hil := (List.getElem?_eq_some_iff.1 hi).1
  have HP := Aside0.mk hp
  have HR := Aside0.mk hr
  have c0 : w.cell? ⟨pA, 0, none⟩ = some (.slice (some ⟨g, 0, none⟩) a.slots.length cap) := (blk_cell h.box 0).trans rfl
  have c8 : w.cell? ⟨g, i * 10 + 8, none⟩ = some (.int .u32 s.count) := hcc 8 _ rfl
  have c9 : w.cell? ⟨g, i * 10 + 9, none⟩ = some (.bool true) := hcc 9 _ (by rw [← hu]; rfl)
  have d1 : decide ((i : Int) ≥ 0) = true := decide_eq_true (by omega)
  have d1' : decide ((0 : Int) ≤ i) = true := decide_eq_true (by omega)
  have d2 : decide ((i : Int) < (a.slots.length : Int)) = true := decide_eq_true (by omega)
  have d2' : decide (i < a.slots.length) = true := decide_eq_true hil
  have b1 : (0 : Int) ≤ (i : Int) := by omega
  have b2 : (i : Int) < (a.slots.length : Int) := by omega
  have heq : (r == r) = true := beq_self_eq_true r
  clear h hcc hfz hp hr hu hi
  go_enter Tryz.func100, Tryz.ntmps100
  go_wp2_with (first | (go_at_call 109; refine (ref_place r _).mono ?_; rintro e w1 ⟨rfl, rfl⟩; rw [HP.out]) | (go_at_call 105; refine (ref_of i s.count _).mono ?_; rintro e w1 ⟨rfl, rfl⟩; rw [HR.out]))
  go_ret
  exact ⟨rfl, rfl⟩
set_option maxHeartbeats 2000000 in
set_option maxRecDepth 100000 in
theorem at_miss_neg {ok : Nat → Prop} {pA : Nat} {sv fv : Value} {lv : Nat → Lv} {ρ : Nat → Nat} {a : Ar} (r p : Int) (w : World) (h : ArenaAt ok pA sv fv lv ρ a w) (hp : placeOf r = p) (hn : p < 0) (hl : a.slots.length < 1000000) :
    Calls Tryz.prog 100 #[.pointer (some ⟨pA, 0, none⟩), .int .i64 r] w fun e w' => e = .returned (.pointer none) ∧ w' = w.setCell ⟨pA, 4, none⟩ (.int .i64 (wrap64 (a.faults + 1))) := by
  obtain ⟨ad, cap, rfl⟩ := Kd.R_slice h.rows
  rw [rowsOf_length] at h
  have HP := Aside0.mk hp
  have c0 : w.cell? ⟨pA, 0, none⟩ = some (.slice ad a.slots.length cap) := (blk_cell h.box 0).trans rfl
  have c4 : w.cell? ⟨pA, 4, none⟩ = some (.int .i64 a.faults) := (blk_cell h.box 4).trans rfl
  have f4 := blk_frozen h.box 4
  have d1 : decide (p ≥ 0) = false := decide_eq_false (by omega)
  have d1' : decide (0 ≤ p) = false := decide_eq_false (by omega)
  clear h hp
  go_enter Tryz.func100, Tryz.ntmps100
  go_wp2_with (first | (go_at_call 109; refine (ref_place r _).mono ?_; rintro e w1 ⟨rfl, rfl⟩; rw [HP.out]))
  go_ret
  exact ⟨rfl, rfl⟩
set_option maxHeartbeats 2000000 in
set_option maxRecDepth 100000 in
theorem at_miss_far {ok : Nat → Prop} {pA : Nat} {sv fv : Value} {lv : Nat → Lv} {ρ : Nat → Nat} {a : Ar} (r p : Int) (w : World) (h : ArenaAt ok pA sv fv lv ρ a w) (hp : placeOf r = p) (h0 : 0 ≤ p) (hn : (a.slots.length : Int) ≤ p) (hl : a.slots.length < 1000000) :
    Calls Tryz.prog 100 #[.pointer (some ⟨pA, 0, none⟩), .int .i64 r] w fun e w' => e = .returned (.pointer none) ∧ w' = w.setCell ⟨pA, 4, none⟩ (.int .i64 (wrap64 (a.faults + 1))) := by
  obtain ⟨ad, cap, rfl⟩ := Kd.R_slice h.rows
  rw [rowsOf_length] at h
  have HP := Aside0.mk hp
  have c0 : w.cell? ⟨pA, 0, none⟩ = some (.slice ad a.slots.length cap) := (blk_cell h.box 0).trans rfl
  have c4 : w.cell? ⟨pA, 4, none⟩ = some (.int .i64 a.faults) := (blk_cell h.box 4).trans rfl
  have f4 := blk_frozen h.box 4
  have d1 : decide (p ≥ 0) = true := decide_eq_true (by omega)
  have d1' : decide (0 ≤ p) = true := decide_eq_true (by omega)
  have d2 : decide (p < (a.slots.length : Int)) = false := decide_eq_false (by omega)
  clear h hp
  go_enter Tryz.func100, Tryz.ntmps100
  go_wp2_with (first | (go_at_call 109; refine (ref_place r _).mono ?_; rintro e w1 ⟨rfl, rfl⟩; rw [HP.out]))
  go_ret
  exact ⟨rfl, rfl⟩
set_option maxHeartbeats 2000000 in
set_option maxRecDepth 100000 in
theorem at_miss_free {ok : Nat → Prop} {pA : Nat} {sv fv : Value} {lv : Nat → Lv} {ρ : Nat → Nat} {a : Ar} (r : Int) (w : World) (h : ArenaAt ok pA sv fv lv ρ a w) (i : Nat) (s : Sl) (hp : placeOf r = (i : Int)) (hi : a.slots[i]? = some s) (hu : s.used = false) (hl : a.slots.length < 1000000) :
    Calls Tryz.prog 100 #[.pointer (some ⟨pA, 0, none⟩), .int .i64 r] w fun e w' => e = .returned (.pointer none) ∧ w' = w.setCell ⟨pA, 4, none⟩ (.int .i64 (wrap64 (a.faults + 1))) := by
  obtain ⟨ad, cap, rfl⟩ := Kd.R_slice h.rows
  rw [rowsOf_length] at h
  obtain ⟨_, g, rfl, hg, hρ, hcc, hfz⟩ := h.cells hi
  have hil := (List.getElem?_eq_some_iff.1 hi).1
  have HP := Aside0.mk hp
  have c0 : w.cell? ⟨pA, 0, none⟩ = some (.slice (some ⟨g, 0, none⟩) a.slots.length cap) := (blk_cell h.box 0).trans rfl
  have c4 : w.cell? ⟨pA, 4, none⟩ = some (.int .i64 a.faults) := (blk_cell h.box 4).trans rfl
  have f4 := blk_frozen h.box 4
  have c9 : w.cell? ⟨g, i * 10 + 9, none⟩ = some (.bool false) := hcc 9 _ (by rw [← hu]; rfl)
  have d1 : decide ((i : Int) ≥ 0) = true := decide_eq_true (by omega)
  have d1' : decide ((0 : Int) ≤ i) = true := decide_eq_true (by omega)
  have d2 : decide ((i : Int) < (a.slots.length : Int)) = true := decide_eq_true (by omega)
  have d2' : decide (i < a.slots.length) = true := decide_eq_true hil
  have b1 : (0 : Int) ≤ (i : Int) := by omega
  have b2 : (i : Int) < (a.slots.length : Int) := by omega
  clear h hp hcc hfz hi hu
  go_enter Tryz.func100, Tryz.ntmps100
  go_wp2_with (first | (go_at_call 109; refine (ref_place r _).mono ?_; rintro e w1 ⟨rfl, rfl⟩; rw [HP.out]))
  go_ret
  exact ⟨rfl, rfl⟩
set_option maxHeartbeats 2000000 in
set_option maxRecDepth 100000 in
theorem at_miss_old {ok : Nat → Prop} {pA : Nat} {sv fv : Value} {lv : Nat → Lv} {ρ : Nat → Nat} {a : Ar} (r : Int) (w : World) (h : ArenaAt ok pA sv fv lv ρ a w) (i : Nat) (s : Sl) (hp : placeOf r = (i : Int)) (hi : a.slots[i]? = some s) (hu : s.used = true) (r1 : Int) (hr : refOf i s.count = r1) (hne : r1 ≠ r) (hl : a.slots.length < 1000000) :
    Calls Tryz.prog 100 #[.pointer (some ⟨pA, 0, none⟩), .int .i64 r] w fun e w' => e = .returned (.pointer none) ∧ w' = w.setCell ⟨pA, 4, none⟩ (.int .i64 (wrap64 (a.faults + 1))) := by
  obtain ⟨ad, cap, rfl⟩ := Kd.R_slice h.rows
  rw [rowsOf_length] at h
  obtain ⟨_, g, rfl, hg, hρ, hcc, hfz⟩ := h.cells hi
  have hil := (List.getElem?_eq_some_iff.1 hi).1
  have HP := Aside0.mk hp
  have c0 : w.cell? ⟨pA, 0, none⟩ = some (.slice (some ⟨g, 0, none⟩) a.slots.length cap) := (blk_cell h.box 0).trans rfl
  have c4 : w.cell? ⟨pA, 4, none⟩ = some (.int .i64 a.faults) := (blk_cell h.box 4).trans rfl
  have f4 := blk_frozen h.box 4
  have c9 : w.cell? ⟨g, i * 10 + 9, none⟩ = some (.bool true) := hcc 9 _ (by rw [← hu]; rfl)
  have c8 : w.cell? ⟨g, i * 10 + 8, none⟩ = some (.int .u32 s.count) := hcc 8 _ rfl
  have HR := Aside0.mk hr
  have heq : (r1 == r) = false := beq_false_of_ne hne
  have d1 : decide ((i : Int) ≥ 0) = true := decide_eq_true (by omega)
  have d1' : decide ((0 : Int) ≤ i) = true := decide_eq_true (by omega)
  have d2 : decide ((i : Int) < (a.slots.length : Int)) = true := decide_eq_true (by omega)
  have d2' : decide (i < a.slots.length) = true := decide_eq_true hil
  have b1 : (0 : Int) ≤ (i : Int) := by omega
  have b2 : (i : Int) < (a.slots.length : Int) := by omega
  clear h hp hcc hfz hi hu hr hne
  go_enter Tryz.func100, Tryz.ntmps100
  go_wp2_with (first | (go_at_call 109; refine (ref_place r _).mono ?_; rintro e w1 ⟨rfl, rfl⟩; rw [HP.out]) | (go_at_call 105; refine (ref_of i s.count _).mono ?_; rintro e w1 ⟨rfl, rfl⟩; rw [HR.out]))
  go_ret
  exact ⟨rfl, rfl⟩

/-- The place of a reference, if it is that node's. -/
def Ar.idx (a : Ar) (r : Int) : Option Nat :=
  if placeOf r < 0 then none
  else match a.slots[(placeOf r).toNat]? with
    | none => none
    | some s => if s.used = true then (if refOf (placeOf r) s.count = r then some (placeOf r).toNat else none) else none
def Ar.fault (a : Ar) : Ar := { a with faults := wrap64 (a.faults + 1) }
theorem Ar.idx_some {a : Ar} {r : Int} {i : Nat} (h : a.idx r = some i) : placeOf r = (i : Int) ∧ ∃ s, a.slots[i]? = some s ∧ s.used = true ∧ refOf i s.count = r := by
  unfold Ar.idx at h
  by_cases hn : placeOf r < 0
  · rw [if_pos hn] at h; cases h
  · rw [if_neg hn] at h
    cases hs : a.slots[(placeOf r).toNat]? with
    | none => rw [hs] at h; cases h
    | some s =>
      rw [hs] at h
      simp only at h
      by_cases hu : s.used = true
      · rw [if_pos hu] at h
        by_cases hr : refOf (placeOf r) s.count = r
        · rw [if_pos hr] at h
          injection h with h
          have hp : placeOf r = (i : Int) := by omega
          rw [hp] at hr
          rw [h] at hs
          exact ⟨hp, s, hs, hu, hr⟩
        · rw [if_neg hr] at h; cases h
      · rw [if_neg hu] at h; cases h

/-- at: the place, or nil and a fault. -/
structure AtPost (sv : Value) (pA : Nat) (a : Ar) (r : Int) (w : World) (e : Ending) (w1 : World) : Prop where
  hit : ∀ i, a.idx r = some i → ∃ g n cap, sv = .slice (some ⟨g, 0, none⟩) n cap ∧ e = .returned (.pointer (some ⟨g, i * 10, none⟩)) ∧ w1 = w
  miss : a.idx r = none → e = .returned (.pointer none) ∧ w1 = w.setCell ⟨pA, 4, none⟩ (.int .i64 (wrap64 (a.faults + 1)))

theorem at_calls {ok : Nat → Prop} {pA : Nat} {sv fv : Value} {lv : Nat → Lv} {ρ : Nat → Nat} {a : Ar} (r : Int) (w : World) (h : ArenaAt ok pA sv fv lv ρ a w) (hl : a.slots.length < 1000000) :
    Calls Tryz.prog 100 #[.pointer (some ⟨pA, 0, none⟩), .int .i64 r] w (AtPost sv pA a r w) := by
  cases hx : a.idx r with
  | some i =>
    obtain ⟨hp, s, hs, hu, hr⟩ := Ar.idx_some hx
    obtain ⟨ad, cap, rfl⟩ := Kd.R_slice h.rows
    obtain ⟨hn, g, rfl, _⟩ := h.cells hs
    refine (at_hit r i s w h hs hp hu hr hl).mono ?_
    rintro e w1 ⟨rfl, rfl⟩
    exact ⟨fun j hj => by rw [hx] at hj; injection hj with hj; subst hj; exact ⟨g, _, cap, rfl, rfl, rfl⟩, fun hj => by rw [hx] at hj; cases hj⟩
  | none =>
    have fin : ∀ {e w1}, (e = .returned (.pointer none) ∧ w1 = w.setCell ⟨pA, 4, none⟩ (.int .i64 (wrap64 (a.faults + 1)))) → AtPost sv pA a r w e w1 := fun hh => ⟨fun j hj => (by rw [hx] at hj; cases hj), fun _ => hh⟩
    unfold Ar.idx at hx
    by_cases hn : placeOf r < 0
    · exact (at_miss_neg r _ w h rfl hn hl).mono (fun e w1 hh => fin hh)
    · rw [if_neg hn] at hx
      cases hs : a.slots[(placeOf r).toNat]? with
      | none =>
        refine (at_miss_far r _ w h rfl (by omega) ?_ hl).mono (fun e w1 hh => fin hh)
        have := List.getElem?_eq_none_iff.1 hs
        omega
      | some s =>
        rw [hs] at hx
        simp only at hx
        have hp : placeOf r = ((placeOf r).toNat : Int) := by omega
        by_cases hu : s.used = true
        · rw [if_pos hu] at hx
          by_cases hr : refOf (placeOf r) s.count = r
          · rw [if_pos hr] at hx; cases hx
          · refine (at_miss_old r w h (placeOf r).toNat s hp hs hu _ rfl ?_ hl).mono (fun e w1 hh => fin hh)
            rw [← hp]
            exact hr
        · exact (at_miss_free r w h (placeOf r).toNat s hp hs (by simpa using hu) hl).mono (fun e w1 hh => fin hh)
end Go.Proofs.YtchjjoepikcmfaaGreat.Tower
