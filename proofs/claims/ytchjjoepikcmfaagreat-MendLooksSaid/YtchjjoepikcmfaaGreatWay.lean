/- (*Arena).Way, walked. -/
import Derived.Test.YtchjjoepikcmfaaGreatAt
namespace Go.Proofs.YtchjjoepikcmfaaGreat.Tower
open Go Go.RowKit Go.Proofs.YtchjjoepikcmfaaGreatW.PrintWords Go.Proofs.YtchjjoepikcmfaaGreatW.PrintLast Go.Proofs.YtchjjoepikcmfaaGreatW.PrintMore Go.Proofs.YtchjjoepikcmfaaGreat.Own
set_option linter.unusedVariables false
set_option linter.unusedSimpArgs false

/-- What a function of the arena's leaves: a number, the arena. -/
structure APost (ok : Nat → Prop) (pA : Nat) (v : Value) (a1 : Ar) (w : World) (e : Ending) (w1 : World) : Prop where
  val : e = .returned v
  ar : IsArena ok pA a1 w1
  moves : Moves ok ok w w1
theorem fault_is {ok : Nat → Prop} {pA : Nat} {sv fv : Value} {lv : Nat → Lv} {ρ : Nat → Nat} {a : Ar} {w : World} (h : ArenaAt ok pA sv fv lv ρ a w) : IsArena ok pA a.fault (w.setCell ⟨pA, 4, none⟩ (.int .i64 (wrap64 (a.faults + 1)))) ∧ Moves ok ok w (w.setCell ⟨pA, 4, none⟩ (.int .i64 (wrap64 (a.faults + 1)))) :=
  ⟨⟨sv, fv, lv, ρ, h.box_set 4 _ a.fault rfl rfl rfl⟩, (Moves.refl ok w).set (p := ⟨pA, 4, none⟩) (.inl h.own) _⟩

def Ar.way (a : Ar) (r i : Int) : Int × Ar :=
  match a.idx r with
  | none => (0, a.fault)
  | some j => match a.slots[j]? with
    | none => (0, a)
    | some s => (if i < 0 then 0 else if (s.ways.length : Int) ≤ i then 0 else s.ways.getD i.toNat 0, a)

set_option maxHeartbeats 2000000 in
set_option maxRecDepth 100000 in
theorem way_calls {ok : Nat → Prop} {pA : Nat} {a : Ar} (r i : Int) (w : World) (h : IsArena ok pA a w) (hl : a.slots.length < 1000000) :
    Calls Tryz.prog 62 #[.pointer (some ⟨pA, 0, none⟩), .int .i64 r, .int .i64 i] w (APost ok pA (.int .i64 (a.way r i).1) (a.way r i).2 w) := by
  obtain ⟨sv, fv, lv, ρ, h⟩ := h
  have HA := Aside0.mk (at_calls r w h hl)
  cases hx : a.idx r with
  | none =>
    have HF := Aside0.mk (fault_is h)
    have HX := Aside0.mk hx
    have e1 : a.way r i = (0, a.fault) := by simp [Ar.way, hx]
    rw [e1]
    clear h hx e1
    go_enter Tryz.func62, Tryz.ntmps62
    go_wp2_with (go_at_call 100; refine HA.out.mono ?_; rintro e w1 ⟨_, hm⟩; obtain ⟨rfl, rfl⟩ := hm HX.out; clear hm)
    go_ret
    exact ⟨rfl, HF.out.1, HF.out.2⟩
  | some j =>
    obtain ⟨hp, s, hs, hu, hr⟩ := Ar.idx_some hx
    obtain ⟨ad, cap, rfl⟩ := Kd.R_slice h.rows
    obtain ⟨hn, g, rfl, hg, hρ, hcc, hfz⟩ := h.cells hs
    have HX := Aside0.mk hx
    have HI := Aside0.mk h
    have hR := h.ways j s hs
    obtain ⟨Aw, cw, ew⟩ := Kd.R_slice hR
    have c5 : w.cell? ⟨g, j * 10 + 5, none⟩ = some (.slice Aw s.ways.length cw) := hcc 5 _ (by rw [← ew]; rfl)
    have e1 : a.way r i = (if i < 0 then 0 else if (s.ways.length : Int) ≤ i then 0 else s.ways.getD i.toNat 0, a) := by simp [Ar.way, hx, hs]
    rw [e1]
    rw [ew] at hR
    by_cases h0 : i < 0
    · rw [if_pos h0]
      have d1 : decide (i < 0) = true := decide_eq_true h0
      clear h hx hcc hfz hp hs hu hr e1 ew hR h0
      go_enter Tryz.func62, Tryz.ntmps62
      go_wp2_with (go_at_call 100; refine HA.out.mono ?_; rintro e w1 ⟨hm, _⟩; obtain ⟨g1, n1, cap1, e1, rfl, rfl⟩ := hm j HX.out; injection e1 with e1 _ _; injection e1 with e1; injection e1 with e1 _ _; subst e1; clear hm)
      go_ret
      exact ⟨rfl, ⟨_, _, _, _, HI.out⟩, Moves.refl _ _⟩
    · rw [if_neg h0]
      have d1 : decide (i < 0) = false := decide_eq_false h0
      by_cases h1 : (s.ways.length : Int) ≤ i
      · rw [if_pos h1]
        have d2 : decide (i ≥ (s.ways.length : Int)) = true := decide_eq_true h1
        have d2' : decide ((s.ways.length : Int) ≤ i) = true := decide_eq_true h1
        clear h hx hcc hfz hp hs hu hr e1 ew hR h0 h1
        go_enter Tryz.func62, Tryz.ntmps62
        go_wp2_with (go_at_call 100; refine HA.out.mono ?_; rintro e w1 ⟨hm, _⟩; obtain ⟨g1, n1, cap1, e1, rfl, rfl⟩ := hm j HX.out; injection e1 with e1 _ _; injection e1 with e1; injection e1 with e1 _ _; subst e1; clear hm)
        go_ret
        exact ⟨rfl, ⟨_, _, _, _, HI.out⟩, Moves.refl _ _⟩
      · rw [if_neg h1]
        have d2 : decide (i ≥ (s.ways.length : Int)) = false := decide_eq_false h1
        have d2' : decide ((s.ways.length : Int) ≤ i) = false := decide_eq_false h1
        have b1 : 0 ≤ i := by omega
        have b2 : i < (s.ways.length : Int) := by omega
        obtain ⟨gl, rfl, _, hcl⟩ := int_elem hR i b1 b2
        generalize s.ways.getD i.toNat 0 = v at hcl ⊢
        clear h hx hcc hfz hp hs hu hr e1 ew hR h0 h1
        go_enter Tryz.func62, Tryz.ntmps62
        go_wp2_with (go_at_call 100; refine HA.out.mono ?_; rintro e w1 ⟨hm, _⟩; obtain ⟨g1, n1, cap1, e1, rfl, rfl⟩ := hm j HX.out; injection e1 with e1 _ _; injection e1 with e1; injection e1 with e1 _ _; subst e1; clear hm)
        go_ret
        exact ⟨rfl, ⟨_, _, _, _, HI.out⟩, Moves.refl _ _⟩
end Go.Proofs.YtchjjoepikcmfaaGreat.Tower
