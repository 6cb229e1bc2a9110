/- For every node, any number and as root or not, the law MendLooks answers true, and the node reads as it did. No conditions. -/
import Derived.Test.YtchjjoepikcmfaaGreatRows
import Derived.Test.YtchjjoepikcmfaaGreatMendLooks
import Derived.OpenShut
import Derived.ShutString
import Derived.ChangeOld
import Derived.SizedLaws
import Derived.Lib.SmallJoins
import Derived.Deep.Slices
namespace Go.Proofs.YtchjjoepikcmfaaGreat.mendLooks
open Go Go.ChangeShapes Go.WideShapes Go.ChangeAt Go.RowKit Go.Joins Go.Deep
set_option linter.unusedVariables false
theorem own : ownKnob Tryz.prog.godebug = none := by kernel_rfl
theorem laidOut : laidOutB Tryz.prog = true := by kernel_rfl

section
variable {H : Type} {enc : TypeId × Value → H} {w : World} {base : Nat} {spare : Nat → Bool} {held : Bool}
/-- A slice's one cell. -/
theorem slice_cell {t e : TypeId} {n : Nat} {cs : List Value} {x : DataW H × List MemPlace} (ht : (Tryz.prog).underlying t = some (.slice e)) (h : DataW.trod enc Tryz.prog w base spare held n t cs = some x) : ∃ A l c, cs = [.slice A l c] ∧ l ≤ 9223372036854775807 := by
  rcases open_slice ht h with ⟨h1, _⟩ | ⟨a, len, cap, m, n1, D, Pl, h1, _, h3, h4, _⟩
  · exact ⟨none, 0, 0, h1, by omega⟩
  · exact ⟨some a, len, cap, h1, by unfold maxLen at h4; omega⟩
set_option maxRecDepth 100000 in
/-- A node's five cells. -/
theorem node_cells {n : Nat} {cs : List Value} {x : DataW H × List MemPlace} (h : DataW.trod enc Tryz.prog w base spare held n 29 cs = some x) :
    ∃ i t Ap lp cp Ak lk ck Ay ly cy, cs = [.bool i, .bool t, .slice Ap lp cp, .slice Ak lk ck, .slice Ay ly cy] ∧ lp ≤ 9223372036854775807 ∧ ly ≤ 9223372036854775807 := by
  obtain ⟨y0, y1, y2, y3, n, rfl, hl, h0, h1, h2, h3⟩ := trod_struct4 Tryz.underlying29 h
  have hC : Tryz.prog.cellsOf 29 = 5 := by kernel_rfl
  rw [hC] at hl
  match cs, hl with
  | [c0, c1, c2, c3, c4], _ =>
    rw [show Tryz.prog.cellsOf 4 = 1 by kernel_rfl] at h0 h1
    rw [show Tryz.prog.cellsOf 23 = 1 by kernel_rfl] at h2
    rw [show Tryz.prog.cellsOf 27 = 2 by kernel_rfl] at h3
    obtain ⟨i, e0, _⟩ := DataW.trod_bool Tryz.underlying4 h0
    obtain ⟨t, e1, _⟩ := DataW.trod_bool Tryz.underlying4 h1
    obtain ⟨Ap, lp, cp, e2, hp⟩ := slice_cell Tryz.underlying23 h2
    obtain ⟨z0, z1, n, rfl, hl, g0, g1⟩ := trod_struct2 Tryz.underlying27 h3
    rw [show Tryz.prog.cellsOf 24 = 1 by kernel_rfl] at g0
    rw [show Tryz.prog.cellsOf 25 = 1 by kernel_rfl] at g1
    obtain ⟨Ak, lk, ck, e3, hk⟩ := slice_cell Tryz.underlying24 g0
    obtain ⟨Ay, ly, cy, e4, hy⟩ := slice_cell Tryz.underlying25 g1
    simp at e0 e1 e2 e3 e4
    subst e0 e1 e2 e3 e4
    exact ⟨i, t, Ap, lp, cp, Ak, lk, ck, Ay, ly, cy, rfl, hp, hy⟩
end

set_option maxRecDepth 100000 in
theorem lifted (os : Os) (started : os.Started) (H : Type) (enc : TypeId × Value → H) :
    ReturnsInHanded {} Tryz.checked os 3 .any (Rows.mendLooksSpec.pre6 enc Tryz.prog Tryz.f3 Rows.mendLooksRow.domain false) (Rows.mendLooksSpec.post enc Tryz.prog Tryz.f3 false true false false) := by
  refine returnsInHanded_of_change_sized (C := Tryz.checked) own started (by kernel_rfl) Tryz.func3
    (ChangeSpec.witness6 (enc := enc) (C := Tryz.checked) false ⟨#[], #[.int .i64 0, .agg #[.bool false, .bool false, .slice none 0 0, .slice none 0 0, .slice none 0 0], .bool false], []⟩ 8 (by kernel_rfl) (by kernel_rfl) (by kernel_rfl) (by kernel_rfl)) ?_
  intro W base args ds gs before hval0 hW hcnd hsz0 _
  have hval : ∀ (j : Nat) t v, Tryz.f3.params[j]? = some t → args[j]? = some v → Value.okWide Tryz.prog W .any base t v := hval0
  have hW' := hW
  obtain ⟨p, q, hA0, hV, rfl, hfz, hnd⟩ := hW
  have hA : DataW.TrodAll enc Tryz.prog W 0 (fun _ => true) true Tryz.f3.params.toList args.toList ds p := hA0
  rw [Tryz.params3] at hA hval
  obtain ⟨v0, vs0, d0, ds0, p0, q0, hargs, rfl, rfl, h0, r0⟩ := trodAll_cons hA
  obtain ⟨v1, vs1, d1, ds1, p1, q1, rfl, rfl, rfl, h1, r1⟩ := trodAll_cons r0
  obtain ⟨v2, vs2, d2, ds2, p2, q2, rfl, rfl, rfl, h2, r2⟩ := trodAll_cons r1
  obtain ⟨rfl, rfl, rfl⟩ := trodAll_nil r2
  obtain rfl : args = #[v0, v1, v2] := by cases args; simp_all
  obtain ⟨rfl, rfl⟩ := trodVars_none hV
  have lt1 : ∀ x ∈ p1, x.block < W.heap.size := by obtain ⟨m, hm⟩ := h1; exact DataW.trod_lt m _ _ _ hm
  obtain ⟨a, rfl, rfl, rfl, wa⟩ := open_int Tryz.underlying3 (hval 0 3 v0 rfl rfl) h0
  obtain ⟨root, rfl, rfl, rfl⟩ := open_bool Tryz.underlying4 (hval 2 4 v2 rfl rfl) h2
  obtain ⟨cs, rfl, hsz⟩ := okWide_struct Tryz.underlying29 (hval 1 29 v1 rfl rfl)
  have h1' := h1
  obtain ⟨fuel, hf⟩ := h1'
  obtain ⟨i, t, Ap, lp, cp, Ak, lk, ck, Ay, ly, cy, hc, hp, hy⟩ := node_cells hf
  obtain rfl : cs = #[.bool i, .bool t, .slice Ap lp cp, .slice Ak lk ck, .slice Ay ly cy] := by
    apply Array.toList_inj.mp
    simpa [Value.cells] using hc
  clear hA0 hval0 hsz0
  refine (Tower.mendLooks_calls a i t root Ap Ak Ay lp lk ly cp ck cy W hp hy).mono fun e' W' ⟨he, bel⟩ => ?_
  subst he
  exact ⟨_, rfl, _, _, _, [], _, [], hW', trodAll_mk1 (shut_bool Tryz.underlying4 _), (trodAll_cons_mk (shut_int Tryz.underlying3 wa) (trodAll_cons_mk (Below.trod laidOut (by kernel_rfl) (of_decide_eq_true (by kernel_rfl)) h1 bel lt1) (trodAll_cons_mk (shut_bool Tryz.underlying4 _) trodAll_mk0))), rfl, bel.frame _, fun h => by cases h⟩
theorem over : Rows.mendLooksRow.holds Tryz.pinned (OpenSpec.ofChange Rows.mendLooksSpec) :=
  OpenClaim.holds_of_wide 3 Tryz.f3 rfl rfl rfl rfl rfl rfl rfl ⟨rfl, rfl, rfl, rfl, rfl⟩ rfl rfl rfl rfl rfl (by kernel_rfl) Tryz.func3 (by kernel_rfl)
    (of_decide_eq_true (by kernel_rfl)) (by unfold Func.isWrapper; first | (rw [if_pos (by decide +kernel)]; kernel_rfl) | (rw [if_neg (by decide +kernel)]; exact ⟨rfl, rfl⟩))
    (fun os started H enc _ => lifted os started H enc)
theorem proved : Rows.MendLooksSaid := over
#print axioms proved
end Go.Proofs.YtchjjoepikcmfaaGreat.mendLooks
namespace Go.Proofs.YtchjjoepikcmfaaGreat
/-- The row, under a short name, for the claim. -/
theorem mendLooks_holds : Rows.MendLooksSaid := mendLooks.proved
end Go.Proofs.YtchjjoepikcmfaaGreat
