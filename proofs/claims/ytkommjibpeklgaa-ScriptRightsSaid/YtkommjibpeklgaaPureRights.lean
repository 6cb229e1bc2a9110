/- Any entry: it may be just if the document says so. For every entry, no conditions. -/
import Derived.Test.YtkommjibpeklgaaMScriptRightsx7
namespace Go.Proofs.Ytkommjibpeklgaa.Pure
open Go.RowKit Go.Proofs.Ytkommjibpeklgaa.PScriptRights Go.Proofs.YtkommjibpeklgaaW.PrintWords Go.Proofs.YtkommjibpeklgaaW.PrintLast
set_option linter.unusedVariables false
set_option linter.unusedSimpArgs false
namespace Rights

def nums (K a b c : Int) : List Int :=
  if K = 1 ∨ K = 2 then [a, c] else if K = 10 ∨ K = 11 then [a, b] else if K = 0 ∨ K = 3 ∨ K = 4 ∨ K = 5 ∨ K = 8 ∨ K = 9 then [a] else []

theorem kinds (K : Int) (h : 0 ≤ K) : K = 0 ∨ K = 1 ∨ K = 2 ∨ K = 3 ∨ K = 4 ∨ K = 5 ∨ K = 6 ∨ K = 7 ∨ K = 8 ∨ K = 9 ∨ K = 10 ∨ K = 11 ∨ (12 ≤ K ∧ K ≠ 0 ∧ K ≠ 1 ∧ K ≠ 2 ∧ K ≠ 3 ∧ K ≠ 4 ∧ K ≠ 5 ∧ K ≠ 6 ∧ K ≠ 7 ∧ K ≠ 8 ∧ K ≠ 9 ∧ K ≠ 10 ∧ K ≠ 11) := by omega

theorem numbers_eq (k : Nat) (K a b c : Int) (h : 0 ≤ K) : model_Op_Numbers.f (k + 2) K a b c = some (nums K a b c) := by
  rcases kinds K h with rfl | rfl | rfl | rfl | rfl | rfl | rfl | rfl | rfl | rfl | rfl | rfl | ⟨h0, h1⟩
  case inr.inr.inr.inr.inr.inr.inr.inr.inr.inr.inr.inr =>
    simp [model_Op_Numbers.f, model_Op_Numbers.j0, model_Op_Numbers.j1, nums, h1]
  all_goals simp [model_Op_Numbers.f, model_Op_Numbers.j0, model_Op_Numbers.j1, nums]

theorem make_eq (k : Nat) (K a b c : Int) (h : 0 ≤ K) : model_Make.f (k + 3) K (nums K a b c) =
    if 12 ≤ K then some (0, 0, 0, 0, false) else if K = 1 ∨ K = 2 then some (K, a, 0, c, true) else if K = 10 ∨ K = 11 then some (K, a, b, 0, true)
    else if K = 6 ∨ K = 7 then some (K, 0, 0, 0, true) else some (K, a, 0, 0, true) := by
  rcases kinds K h with rfl | rfl | rfl | rfl | rfl | rfl | rfl | rfl | rfl | rfl | rfl | rfl | ⟨h0, h1⟩
  case inr.inr.inr.inr.inr.inr.inr.inr.inr.inr.inr.inr =>
    simp [model_Make.f, model_Make.j0, h0]
  all_goals simp [model_Make.f, model_Make.j0, model_Make.j1, model_Make.j2, numbers_eq, nums, rd]

theorem zc (x : Int) : ((0 : Int) == x) = (x == 0) := Bool.beq_comm

/-- May it be? -/
def may (e d K a b c : Int) : Bool :=
  if 4 ≤ e ∨ 64 ≤ d then false else if e = 0 then (if 12 ≤ K then false else if K = 1 ∨ K = 2 then b == 0 else if K = 10 ∨ K = 11 then c == 0 else if K = 6 ∨ K = 7 then a == 0 && (b == 0 && c == 0) else b == 0 && c == 0)
  else K == 0 && (a == 0 && (b == 0 && c == 0))

theorem right_eq (k : Nat) (e d K a b c : Int) (h : 0 ≤ K) : script_Entry_Right.f (k + 4) e d K a b c = some (may e d K a b c) := by
  unfold script_Entry_Right.f may
  have hj : ∀ g : Bool, script_Entry_Right.j0 (k + 4) g e d K a b c = some (if g = true then false else if e = 0 then (if 12 ≤ K then false else if K = 1 ∨ K = 2 then b == 0 else if K = 10 ∨ K = 11 then c == 0 else if K = 6 ∨ K = 7 then a == 0 && (b == 0 && c == 0) else b == 0 && c == 0)
      else K == 0 && (a == 0 && (b == 0 && c == 0))) := by
    intro g
    simp only [script_Entry_Right.j0, numbers_eq _ _ _ _ _ h, Option.bind_some, make_eq _ _ _ _ _ h]
    cases g
    · by_cases he : e = 0
      · rcases kinds K h with rfl | rfl | rfl | rfl | rfl | rfl | rfl | rfl | rfl | rfl | rfl | rfl | ⟨h0, h1⟩
        case pos.inr.inr.inr.inr.inr.inr.inr.inr.inr.inr.inr.inr => simp [he, h0]
        all_goals simp [he, zc]
      · simp [he]
    · simp
  by_cases h4 : e ≥ 4
  · rw [if_pos h4, hj, if_pos (Or.inl h4)]; simp
  · rw [if_neg h4, hj]
    by_cases h6 : d ≥ 64
    · rw [if_pos (Or.inr h6)]; simp [h6]
    · rw [if_neg (show ¬ (4 ≤ e ∨ 64 ≤ d) by omega)]; simp [h6]

theorem many_eq (k : Nat) (K : Int) (h : 0 ≤ K) : boscagelaw18_Many.f (k + 2) K = some (if 12 ≤ K then -1 else if K = 1 ∨ K = 2 ∨ K = 10 ∨ K = 11 then 2 else if K = 6 ∨ K = 7 then 0 else 1) := by
  rcases kinds K h with rfl | rfl | rfl | rfl | rfl | rfl | rfl | rfl | rfl | rfl | rfl | rfl | ⟨h0, h1⟩
  case inr.inr.inr.inr.inr.inr.inr.inr.inr.inr.inr.inr => simp [boscagelaw18_Many.f, boscagelaw18_Many.j0, boscagelaw18_Many.j1, h0, h1]
  all_goals simp [boscagelaw18_Many.f, boscagelaw18_Many.j0, boscagelaw18_Many.j1]

theorem may_eq (k : Nat) (e d K a b c : Int) (h : 0 ≤ K) : boscagelaw24_May.f (k + 3) e d K a b c = some (may e d K a b c) := by
  unfold boscagelaw24_May.f may
  have hj : ∀ g : Bool, boscagelaw24_May.j0 (k + 3) g e d K a b c = some (if g = true then false else if e = 0 then (if 12 ≤ K then false else if K = 1 ∨ K = 2 then b == 0 else if K = 10 ∨ K = 11 then c == 0 else if K = 6 ∨ K = 7 then a == 0 && (b == 0 && c == 0) else b == 0 && c == 0)
      else K == 0 && (a == 0 && (b == 0 && c == 0))) := by
    intro g
    simp only [boscagelaw24_May.j0, many_eq _ _ h, Option.bind_some]
    cases g
    · by_cases he : e = 0
      · rcases kinds K h with rfl | rfl | rfl | rfl | rfl | rfl | rfl | rfl | rfl | rfl | rfl | rfl | ⟨h0, h1⟩
        case pos.inr.inr.inr.inr.inr.inr.inr.inr.inr.inr.inr.inr => simp [he, h0, h1]
        all_goals (simp [he]; try (by_cases ha : a = 0 <;> by_cases hb : b = 0 <;> simp [ha, hb]))
      · simp [he]
    · simp
  by_cases h4 : e ≥ 4
  · rw [if_pos h4, hj, if_pos (Or.inl h4)]; simp
  · rw [if_neg h4, hj]
    by_cases h6 : d ≥ 64
    · rw [if_pos (Or.inr h6)]; simp [h6]
    · rw [if_neg (show ¬ (4 ≤ e ∨ 64 ≤ d) by omega)]; simp [h6]

theorem awake : boscagelaw24_Awake.f 12 = some true := by decide +kernel

theorem all (e d K a b c : Int) (h : 0 ≤ K) : ∃ k, boscagelaw24_ScriptRights.f k e d K a b c = some true := by
  refine ⟨12, ?_⟩
  unfold boscagelaw24_ScriptRights.f
  rw [awake]
  simp only [Option.bind_some, if_true]
  rw [right_eq 8 _ _ _ _ _ _ h, may_eq 9 _ _ _ _ _ _ h]
  simp

end Rights
end Go.Proofs.Ytkommjibpeklgaa.Pure
