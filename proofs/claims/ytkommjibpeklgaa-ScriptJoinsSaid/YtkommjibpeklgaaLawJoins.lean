/- For all entries the law ScriptJoins answers true: what is written of two lists, one behind the other, is what is written of the one, and of the other behind it. -/
import Derived.Test.YtkommjibpeklgaaRows
import Derived.Test.YtkommjibpeklgaaEncScriptJoins
import Derived.Test.YtkommjibpeklgaaArgsScriptJoins
import Derived.WalkKit
import Derived.ProofKit
import Derived.OpenShut
import Derived.ShutString
import Derived.ChangeOld
import Derived.Below
import Derived.SizedLaws
namespace Go.Proofs.Ytkommjibpeklgaa.scriptJoins
open Go.ChangeShapes Go.WideShapes Go.ChangeAt Go.RowKit Go.Proofs.Ytkommjibpeklgaa.PScriptJoins Go.Proofs.Ytkommjibpeklgaa.Pure.EncScriptJoins Go.Proofs.Ytkommjibpeklgaa.ArgsPScriptJoins
open Go.ChangeMaps (open_string shut_string)
set_option linter.unusedVariables false

theorem pure (l o : List S27) (hl : ∀ s ∈ l, Fits s) (ho : ∀ s ∈ o, Fits s) : ∃ k, boscagelaw24_ScriptJoins.f k l o = some true := by
  have hj : ∀ b, b = true ∨ (l.length ≤ 30 ∧ o.length ≤ 30) → boscagelaw24_ScriptJoins.j0 400 l o b = some true := by
    intro b hb
    by_cases h : b = true
    · simp only [boscagelaw24_ScriptJoins.j0]
      rw [if_pos h]
    · obtain ⟨h1, h2⟩ := hb.resolve_left h
      have e1 : script_Encode.f 399 l = some (wrote l) := encode_eq _ _ (fun s hs => (hl s hs).kind) (by omega) (by omega)
      have e2 : script_Encode.f 399 o = some (wrote o) := encode_eq _ _ (fun s hs => (ho s hs).kind) (by omega) (by omega)
      have e3 : script_Encode.f 399 (l ++ o) = some (wrote l ++ wrote o) := by
        rw [encode_eq _ _ (fun s hs => ?_) (by simp only [List.length_append]; omega) (by simp only [List.length_append]; omega)]
        · simp [wrote]
        · rcases List.mem_append.mp hs with hs | hs
          · exact (hl s hs).kind
          · exact (ho s hs).kind
      have b1 := wrote_len l
      have b2 := wrote_len o
      simp only [boscagelaw24_ScriptJoins.j0]
      rw [if_neg h]
      simp only [Option.bind_some, List.nil_append, List.length_nil]
      rw [if_pos (by omega), if_pos (by omega), e3, e1, e2]
      simp only [Option.bind_some]
      rw [if_pos (by omega), if_pos (by omega)]
      simp [boscagelaw24_same.f]
  refine ⟨400, ?_⟩
  unfold boscagelaw24_ScriptJoins.f
  rw [awakes 400 (by omega)]
  simp only [Option.bind_some, if_true]
  split
  · exact hj _ (Or.inl rfl)
  · refine hj _ ?_
    by_cases h : (o.length : Int) > 30
    · left; simpa using h
    · right; omega

theorem own : ownKnob Try.prog.godebug = none := by kernel_rfl
theorem laidOut : laidOutB Try.prog = true := by kernel_rfl
set_option maxRecDepth 100000 in
theorem lifted (os : Os) (started : os.Started) (H : Type) (enc : TypeId × Value → H) :
    ReturnsInHanded {} Try.checked os 5 .any (Rows.scriptJoinsSpec.pre6 enc Try.prog Try.f5 Rows.scriptJoinsRow.domain false) (Rows.scriptJoinsSpec.post enc Try.prog Try.f5 false true false false) := by
  refine returnsInHanded_of_change_sized (C := Try.checked) own started (by kernel_rfl) Try.func5
    (ChangeSpec.witness6 (enc := enc) (C := Try.checked) false ⟨#[], #[.slice none 0 0, .slice none 0 0], []⟩ 8 (by kernel_rfl) (by kernel_rfl) (by kernel_rfl) (by kernel_rfl)) ?_
  intro W base args ds gs before hval0 hW hcnd hsz0 _
  have hval : ∀ (j : Nat) t v, Try.f5.params[j]? = some t → args[j]? = some v → Value.okWide Try.prog W .any base t v := hval0
  have hW' := hW
  obtain ⟨p, q, hA0, hV, rfl, hfz, hnd⟩ := hW
  have hA : DataW.TrodAll enc Try.prog W 0 (fun _ => true) true Try.f5.params.toList args.toList ds p := hA0
  rw [Try.params5] at hA hval
  obtain ⟨v0, vs0, d0, ds0, p0, q0, hargs, rfl, rfl, h0, r0⟩ := trodAll_cons hA
  obtain ⟨v1, vs1, d1, ds1, p1, q1, rfl, rfl, rfl, h1, r1⟩ := trodAll_cons r0
  obtain ⟨rfl, rfl, rfl⟩ := trodAll_nil r1
  obtain rfl : args = #[v0, v1] := by cases args; simp_all
  obtain ⟨rfl, rfl⟩ := trodVars_none hV
  obtain ⟨a0, len0, cap0, rfl⟩ := okWide_slice Try.underlying30 (hval 0 30 v0 rfl rfl)
  have lt0 : ∀ x ∈ p0, x.block < W.heap.size := by obtain ⟨m, hm⟩ := h0; exact DataW.trod_lt m _ _ _ hm
  obtain ⟨l0, rfl, c0, hc0, f0⟩ := open_entries h0
  obtain ⟨a1, len1, cap1, rfl⟩ := okWide_slice Try.underlying30 (hval 1 30 v1 rfl rfl)
  have lt1 : ∀ x ∈ p1, x.block < W.heap.size := by obtain ⟨m, hm⟩ := h1; exact DataW.trod_lt m _ _ _ hm
  obtain ⟨l1, rfl, c1, hc1, f1⟩ := open_entries h1
  clear hA0 hval0 hsz0
  obtain ⟨k, hk⟩ := pure l0 l1 f0 f1
  refine (boscagelaw24_ScriptJoins.calls k a0 cap0 l0 a1 cap1 l1 true W c0 hc0 c1 hc1 hk).mono fun e W' ⟨he, bel⟩ => ?_
  subst he
  exact ⟨_, rfl, _, _, _, [], _, [], hW', trodAll_mk1 (shut_bool Try.underlying4 _), (trodAll_cons_mk (Below.trod laidOut (by kernel_rfl) (of_decide_eq_true (by kernel_rfl)) h0 bel lt0) (trodAll_cons_mk (Below.trod laidOut (by kernel_rfl) (of_decide_eq_true (by kernel_rfl)) h1 bel lt1) trodAll_mk0)), rfl, bel.frame _, fun h => by cases h⟩
theorem over : Rows.scriptJoinsRow.holds Try.pinned (OpenSpec.ofChange Rows.scriptJoinsSpec) :=
  OpenClaim.holds_of_wide 5 Try.f5 rfl rfl rfl rfl rfl rfl rfl ⟨rfl, rfl, rfl, rfl, rfl⟩ rfl rfl rfl rfl rfl (by kernel_rfl) Try.func5 (by kernel_rfl)
    (of_decide_eq_true (by kernel_rfl)) (by unfold Func.isWrapper; first | (rw [if_pos (by decide +kernel)]; kernel_rfl) | (rw [if_neg (by decide +kernel)]; exact ⟨rfl, rfl⟩))
    (fun os started H enc _ => lifted os started H enc)
theorem proved : Rows.ScriptJoinsSaid := over
#print axioms proved
end Go.Proofs.Ytkommjibpeklgaa.scriptJoins
namespace Go.Proofs.Ytkommjibpeklgaa
/-- The row, under a short name, for the claim. -/
theorem scriptJoins_holds : Rows.ScriptJoinsSaid := scriptJoins.proved
end Go.Proofs.Ytkommjibpeklgaa
