/- For every entry the law ScriptRights answers true, and the entry reads as it did. No conditions. -/
import Derived.Test.YtkommjibpeklgaaRows
import Derived.Test.YtkommjibpeklgaaPureRights
import Derived.WalkKit
import Derived.ProofKit
import Derived.OpenShut
import Derived.ShutString
import Derived.ChangeOld
import Derived.Below
import Derived.SizedLaws
import Derived.Lib.SmallJoins
namespace Go.Proofs.Ytkommjibpeklgaa.scriptRights
open Go.ChangeShapes Go.WideShapes Go.ChangeAt Go.RowKit Go.Joins Go.Deep
set_option linter.unusedVariables false
theorem own : ownKnob Try.prog.godebug = none := by kernel_rfl

section
variable {H : Type} {enc : TypeId × Value → H} {w : World} {base : Nat} {spare : Nat → Bool} {held : Bool}

/-- An operation's four cells, and what they read as. -/
theorem op_cells {n : Nat} {cs : List Value} {x : DataW H × List MemPlace} (h : DataW.trod enc Try.prog w base spare held n 25 cs = some x) :
    ∃ K a b c, cs = [.int .u8 K, .int .i64 a, .int .i64 b, .int .i64 c] ∧ x = (.agg [.lit (.int .u8 K), .lit (.int .i64 a), .lit (.int .i64 b), .lit (.int .i64 c)], []) ∧
      (Lit.int .u8 K).wf = true ∧ (Lit.int .i64 a).wf = true ∧ (Lit.int .i64 b).wf = true ∧ (Lit.int .i64 c).wf = true := by
  obtain ⟨y0, y1, y2, y3, n, rfl, hl, h0, h1, h2, h3⟩ := trod_struct4 Try.underlying25 h
  have hC : Try.prog.cellsOf 25 = 4 := by kernel_rfl
  rw [hC] at hl
  match cs, hl with
  | [c0, c1, c2, c3], _ =>
    rw [show Try.prog.cellsOf 23 = 1 by kernel_rfl] at h0
    rw [show Try.prog.cellsOf 2 = 1 by kernel_rfl] at h1 h2 h3
    obtain ⟨K, e0, rfl, w0⟩ := DataW.trod_int Try.underlying23 h0
    obtain ⟨a, e1, rfl, w1⟩ := DataW.trod_int Try.underlying2 h1
    obtain ⟨b, e2, rfl, w2⟩ := DataW.trod_int Try.underlying2 h2
    obtain ⟨c, e3, rfl, w3⟩ := DataW.trod_int Try.underlying2 h3
    simp at e0 e1 e2 e3
    subst e0 e1 e2 e3
    exact ⟨K, a, b, c, rfl, by simp, w0, w1, w2, w3⟩

theorem op_shut (n : Nat) {K a b c : Int} (w0 : (Lit.int .u8 K).wf = true) (w1 : (Lit.int .i64 a).wf = true) (w2 : (Lit.int .i64 b).wf = true) (w3 : (Lit.int .i64 c).wf = true) :
    DataW.trod enc Try.prog w base spare held (n + 2) 25 [.int .u8 K, .int .i64 a, .int .i64 b, .int .i64 c] = some (.agg [.lit (.int .u8 K), .lit (.int .i64 a), .lit (.int .i64 b), .lit (.int .i64 c)], []) := by
  have := trod_struct4_mk (enc := enc) (w := w) (base := base) (spare := spare) (held := held) (n := n + 1) (cs := [.int .u8 K, .int .i64 a, .int .i64 b, .int .i64 c]) Try.underlying25 (by rw [show Try.prog.cellsOf 25 = 4 by kernel_rfl]; rfl)
    (y0 := (.lit (.int .u8 K), [])) (y1 := (.lit (.int .i64 a), [])) (y2 := (.lit (.int .i64 b), [])) (y3 := (.lit (.int .i64 c), []))
    (by rw [show Try.prog.cellsOf 23 = 1 by kernel_rfl]; exact trod_int_mk n Try.underlying23 w0) (by rw [show Try.prog.cellsOf 2 = 1 by kernel_rfl]; exact trod_int_mk n Try.underlying2 w1)
    (by rw [show Try.prog.cellsOf 2 = 1 by kernel_rfl]; exact trod_int_mk n Try.underlying2 w2) (by rw [show Try.prog.cellsOf 2 = 1 by kernel_rfl]; exact trod_int_mk n Try.underlying2 w3)
  simpa using this

/-- An entry's six cells, and what they read as. -/
theorem entry_cells {n : Nat} {cs : List Value} {x : DataW H × List MemPlace} (h : DataW.trod enc Try.prog w base spare held n 27 cs = some x) :
    ∃ e d K a b c, cs = [.int .u8 e, .int .u8 d, .int .u8 K, .int .i64 a, .int .i64 b, .int .i64 c] ∧
      x = (.agg [.lit (.int .u8 e), .lit (.int .u8 d), .agg [.lit (.int .u8 K), .lit (.int .i64 a), .lit (.int .i64 b), .lit (.int .i64 c)]], []) ∧
      (Lit.int .u8 e).wf = true ∧ (Lit.int .u8 d).wf = true ∧ (Lit.int .u8 K).wf = true ∧ (Lit.int .i64 a).wf = true ∧ (Lit.int .i64 b).wf = true ∧ (Lit.int .i64 c).wf = true := by
  obtain ⟨y0, y1, y2, n, rfl, hl, h0, h1, h2⟩ := trod_struct3 Try.underlying27 h
  rw [show Try.prog.cellsOf 27 = 6 by kernel_rfl] at hl
  match cs, hl with
  | [c0, c1, c2, c3, c4, c5], _ =>
    rw [show Try.prog.cellsOf 22 = 1 by kernel_rfl] at h0
    rw [show Try.prog.cellsOf 5 = 1 by kernel_rfl] at h1
    rw [show Try.prog.cellsOf 25 = 4 by kernel_rfl] at h2
    obtain ⟨e, e0, rfl, w0⟩ := DataW.trod_int Try.underlying22 h0
    obtain ⟨d, e1, rfl, w1⟩ := DataW.trod_int Try.underlying5 h1
    obtain ⟨K, a, b, c, e2, rfl, w2, w3, w4, w5⟩ := op_cells h2
    simp at e0 e1 e2
    obtain ⟨rfl, rfl, rfl, rfl⟩ := e2
    subst e0 e1
    exact ⟨e, d, K, a, b, c, rfl, by simp, w0, w1, w2, w3, w4, w5⟩

theorem entry_shut (n : Nat) {e d K a b c : Int} (we : (Lit.int .u8 e).wf = true) (wd : (Lit.int .u8 d).wf = true) (w0 : (Lit.int .u8 K).wf = true) (w1 : (Lit.int .i64 a).wf = true) (w2 : (Lit.int .i64 b).wf = true) (w3 : (Lit.int .i64 c).wf = true) :
    DataW.trod enc Try.prog w base spare held (n + 3) 27 [.int .u8 e, .int .u8 d, .int .u8 K, .int .i64 a, .int .i64 b, .int .i64 c] =
      some (.agg [.lit (.int .u8 e), .lit (.int .u8 d), .agg [.lit (.int .u8 K), .lit (.int .i64 a), .lit (.int .i64 b), .lit (.int .i64 c)]], []) := by
  have := trod_struct3_mk (enc := enc) (w := w) (base := base) (spare := spare) (held := held) (n := n + 2) (cs := [.int .u8 e, .int .u8 d, .int .u8 K, .int .i64 a, .int .i64 b, .int .i64 c]) Try.underlying27 (by rw [show Try.prog.cellsOf 27 = 6 by kernel_rfl]; rfl)
    (y0 := (.lit (.int .u8 e), [])) (y1 := (.lit (.int .u8 d), [])) (y2 := (.agg [.lit (.int .u8 K), .lit (.int .i64 a), .lit (.int .i64 b), .lit (.int .i64 c)], []))
    (by rw [show Try.prog.cellsOf 22 = 1 by kernel_rfl]; exact trod_int_mk (n + 1) Try.underlying22 we) (by rw [show Try.prog.cellsOf 5 = 1 by kernel_rfl]; exact trod_int_mk (n + 1) Try.underlying5 wd)
    (by rw [show Try.prog.cellsOf 25 = 4 by kernel_rfl]; exact op_shut n w0 w1 w2 w3)
  simpa using this

theorem entry_shuts {e d K a b c : Int} (we : (Lit.int .u8 e).wf = true) (wd : (Lit.int .u8 d).wf = true) (w0 : (Lit.int .u8 K).wf = true) (w1 : (Lit.int .i64 a).wf = true) (w2 : (Lit.int .i64 b).wf = true) (w3 : (Lit.int .i64 c).wf = true) :
    DataW.Trod enc Try.prog w base spare held 27 (.agg #[.int .u8 e, .int .u8 d, .int .u8 K, .int .i64 a, .int .i64 b, .int .i64 c])
      (.agg [.lit (.int .u8 e), .lit (.int .u8 d), .agg [.lit (.int .u8 K), .lit (.int .i64 a), .lit (.int .i64 b), .lit (.int .i64 c)]]) [] :=
  ⟨3, by simpa [Value.cells] using entry_shut 0 we wd w0 w1 w2 w3⟩
end

theorem open_entry {r : Reach} {b0 : Nat} {H : Type} {enc : TypeId × Value → H} {w : World} {base : Nat} {spare : Nat → Bool} {held : Bool} {v : Value} {D : DataW H} {p : List MemPlace}
    (hv : Value.okWide Try.prog w r b0 27 v) (h : DataW.Trod enc Try.prog w base spare held 27 v D p) :
    ∃ e d K a b c, v = .agg #[.int .u8 e, .int .u8 d, .int .u8 K, .int .i64 a, .int .i64 b, .int .i64 c] ∧
      D = .agg [.lit (.int .u8 e), .lit (.int .u8 d), .agg [.lit (.int .u8 K), .lit (.int .i64 a), .lit (.int .i64 b), .lit (.int .i64 c)]] ∧ p = [] ∧
      (Lit.int .u8 e).wf = true ∧ (Lit.int .u8 d).wf = true ∧ (Lit.int .u8 K).wf = true ∧ (Lit.int .i64 a).wf = true ∧ (Lit.int .i64 b).wf = true ∧ (Lit.int .i64 c).wf = true := by
  obtain ⟨cs, rfl, hsz⟩ := okWide_struct Try.underlying27 hv
  obtain ⟨fuel, hf⟩ := h
  obtain ⟨e, d, K, a, b, c, hc, hx, w0, w1, w2, w3, w4, w5⟩ := entry_cells hf
  simp only [Prod.mk.injEq] at hx
  refine ⟨e, d, K, a, b, c, ?_, hx.1, hx.2, w0, w1, w2, w3, w4, w5⟩
  congr 1
  apply Array.toList_inj.mp
  simpa [Value.cells] using hc

set_option maxRecDepth 100000 in
theorem lifted (os : Os) (started : os.Started) (H : Type) (enc : TypeId × Value → H) :
    ReturnsInHanded {} Try.checked os 3 .any (Rows.scriptRightsSpec.pre6 enc Try.prog Try.f3 Rows.scriptRightsRow.domain false) (Rows.scriptRightsSpec.post enc Try.prog Try.f3 false true false false) := by
  refine returnsInHanded_of_change_sized (C := Try.checked) own started (by kernel_rfl) Try.func3
    (ChangeSpec.witness6 (enc := enc) (C := Try.checked) false ⟨#[], #[.agg #[.int .u8 0, .int .u8 0, .int .u8 0, .int .i64 0, .int .i64 0, .int .i64 0]], []⟩ 8 (by kernel_rfl) (by kernel_rfl) (by kernel_rfl) (by kernel_rfl)) ?_
  intro W base args ds gs before hval0 hW hcnd hsz0 _
  have hval : ∀ (j : Nat) t v, Try.f3.params[j]? = some t → args[j]? = some v → Value.okWide Try.prog W .any base t v := hval0
  have hW' := hW
  obtain ⟨p, q, hA0, hV, rfl, hfz, hnd⟩ := hW
  have hA : DataW.TrodAll enc Try.prog W 0 (fun _ => true) true Try.f3.params.toList args.toList ds p := hA0
  rw [Try.params3] at hA hval
  obtain ⟨v0, vs0, d0, ds0, p0, q0, hargs, rfl, rfl, h0, r0⟩ := trodAll_cons hA
  obtain ⟨rfl, rfl, rfl⟩ := trodAll_nil r0
  obtain rfl : args = #[v0] := by cases args; simp_all
  obtain ⟨rfl, rfl⟩ := trodVars_none hV
  obtain ⟨e, d, K, a, b, c, rfl, rfl, rfl, w0, w1, w2, w3, w4, w5⟩ := open_entry (hval 0 27 v0 rfl rfl) h0
  clear hA0 hval0 hsz0
  have hK : 0 ≤ K := by
    have : 0 ≤ K ∧ K ≤ 255 := by simpa [Lit.wf, IntKind.min, IntKind.max, IntKind.bits, IntKind.signed] using w2
    exact this.1
  obtain ⟨k, hk⟩ := Pure.Rights.all e d K a b c hK
  refine (PScriptRights.boscagelaw24_ScriptRights.calls k e d K a b c true W hk).mono fun e' W' ⟨he, bel⟩ => ?_
  subst he
  exact ⟨_, rfl, _, _, _, [], _, [], hW', trodAll_mk1 (shut_bool Try.underlying4 _), (trodAll_cons_mk (entry_shuts w0 w1 w2 w3 w4 w5) trodAll_mk0), rfl, bel.frame _, fun h => by cases h⟩
theorem over : Rows.scriptRightsRow.holds Try.pinned (OpenSpec.ofChange Rows.scriptRightsSpec) :=
  OpenClaim.holds_of_wide 3 Try.f3 rfl rfl rfl rfl rfl rfl rfl ⟨rfl, rfl, rfl, rfl, rfl⟩ rfl rfl rfl rfl rfl (by kernel_rfl) Try.func3 (by kernel_rfl)
    (of_decide_eq_true (by kernel_rfl)) (by unfold Func.isWrapper; first | (rw [if_pos (by decide +kernel)]; kernel_rfl) | (rw [if_neg (by decide +kernel)]; exact ⟨rfl, rfl⟩))
    (fun os started H enc _ => lifted os started H enc)
theorem proved : Rows.ScriptRightsSaid := over
#print axioms proved
end Go.Proofs.Ytkommjibpeklgaa.scriptRights
namespace Go.Proofs.Ytkommjibpeklgaa
/-- The row, under a short name, for the claim. -/
theorem scriptRights_holds : Rows.ScriptRightsSaid := scriptRights.proved
end Go.Proofs.Ytkommjibpeklgaa
