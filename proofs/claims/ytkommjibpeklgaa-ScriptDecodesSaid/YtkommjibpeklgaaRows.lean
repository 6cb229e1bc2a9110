/-
  No cell of these rows narrows 'for every input' (looked for: loops, veiled, ifaces, maps, wideKeys, modest, calm, conditions, laid).
  DERIVED. THE GIVEN ROWS OF THIS SEAT. 6 by the template 'for every input the law returns true; each argument reads behind the call as it read before'; 0 by the template 'total and deterministic' (their statements: YtkommjibpeklgaaTotals.lean).
  GIVEN WITH THE SEED: the statements are not yours to turn. If you find one false, say at which input.
  Laid BY PROGRAM, IN A SANDBOX (cutbox-rows.mjs): the forced cells as the released guide's own fill.sh prints them over the translation 3f0bc9591f24e3fd… (all of the seat's roots in one cut). By AI agents, Wed Nov 11 2026. No macro, syntax, notation, axiom, sorry.
-/
import Derived.Test.YtkommjibpeklgaaChecked
import GoSem.Claim
import GoSem.ClaimJoined
import GoSem.ClaimMapViews
import Derived.JoinedTies
import Derived.KernelRfl
namespace Go.Proofs.Ytkommjibpeklgaa
/- THE CELL 'sum', in the pinned program and in every row, IS THE sha256 OF THE DUMP (.gsa) THAT YtkommjibpeklgaaProg.lean LOADS. Nothing in Lean hashes anything: it is a label: what it is worth is what the hold of that sum in a sandbox is worth. -/
noncomputable def Try.pinned : Pinned := { name := "ytkommjibpeklgaa", sum := "3f0bc9591f24e3fda4f14fd007427b890aa5cb79089881c46636c4de8442dfb4", checked := Try.checked }
namespace Rows
def none {H : Type} : Left H := { results := [], args := [] }

/-- 'boscagelaw24.ScriptRights': WHATEVER THE INPUT: true; the input reads as it did. -/
def scriptRightsSpec : ChangeSpec := { name := "scriptRights", fn := fun _ => fun
  | [d] => { results := [.lit (.bool true)], args := [d] }
  | _ => none }
def scriptRightsRow : OpenClaim := { program := "ytkommjibpeklgaa", sum := "3f0bc9591f24e3fda4f14fd007427b890aa5cb79089881c46636c4de8442dfb4", func := "boscage/boscagelaw24.ScriptRights", spec := "scriptRights", apart := false }
def ScriptRightsSaid : Prop := scriptRightsRow.holds Try.pinned (OpenSpec.ofChange scriptRightsSpec)

/-- ITS FALSE NEIGHBOUR: 'it returns false'. Refute it at one input. -/
def scriptRightsWrong : ChangeSpec := { name := "scriptRights", fn := fun _ => fun
  | [d] => { results := [.lit (.bool false)], args := [d] }
  | _ => none }
def ScriptRightsWrongFalsely : Prop := scriptRightsRow.holds Try.pinned (OpenSpec.ofChange scriptRightsWrong)

/-- 'boscagelaw24.ScriptEncodes': WHATEVER THE INPUT: true; the input reads as it did. -/
def scriptEncodesSpec : ChangeSpec := { name := "scriptEncodes", fn := fun _ => fun
  | [d1, d2] => { results := [.lit (.bool true)], args := [d1, d2] }
  | _ => none }
def scriptEncodesRow : OpenClaim := { program := "ytkommjibpeklgaa", sum := "3f0bc9591f24e3fda4f14fd007427b890aa5cb79089881c46636c4de8442dfb4", func := "boscage/boscagelaw24.ScriptEncodes", spec := "scriptEncodes", apart := false }
def ScriptEncodesSaid : Prop := scriptEncodesRow.holds Try.pinned (OpenSpec.ofChange scriptEncodesSpec)

/-- ITS FALSE NEIGHBOUR: 'it returns false'. Refute it at one input. -/
def scriptEncodesWrong : ChangeSpec := { name := "scriptEncodes", fn := fun _ => fun
  | [d1, d2] => { results := [.lit (.bool false)], args := [d1, d2] }
  | _ => none }
def ScriptEncodesWrongFalsely : Prop := scriptEncodesRow.holds Try.pinned (OpenSpec.ofChange scriptEncodesWrong)

/-- 'boscagelaw24.ScriptJoins': WHATEVER THE INPUT: true; the input reads as it did. -/
def scriptJoinsSpec : ChangeSpec := { name := "scriptJoins", fn := fun _ => fun
  | [d1, d2] => { results := [.lit (.bool true)], args := [d1, d2] }
  | _ => none }
def scriptJoinsRow : OpenClaim := { program := "ytkommjibpeklgaa", sum := "3f0bc9591f24e3fda4f14fd007427b890aa5cb79089881c46636c4de8442dfb4", func := "boscage/boscagelaw24.ScriptJoins", spec := "scriptJoins", apart := false }
def ScriptJoinsSaid : Prop := scriptJoinsRow.holds Try.pinned (OpenSpec.ofChange scriptJoinsSpec)

/-- ITS FALSE NEIGHBOUR: 'it returns false'. Refute it at one input. -/
def scriptJoinsWrong : ChangeSpec := { name := "scriptJoins", fn := fun _ => fun
  | [d1, d2] => { results := [.lit (.bool false)], args := [d1, d2] }
  | _ => none }
def ScriptJoinsWrongFalsely : Prop := scriptJoinsRow.holds Try.pinned (OpenSpec.ofChange scriptJoinsWrong)

/-- 'boscagelaw24.ScriptDecodes': WHATEVER THE INPUT: true; the input reads as it did. -/
def scriptDecodesSpec : ChangeSpec := { name := "scriptDecodes", fn := fun _ => fun
  | [d] => { results := [.lit (.bool true)], args := [d] }
  | _ => none }
def scriptDecodesRow : OpenClaim := { program := "ytkommjibpeklgaa", sum := "3f0bc9591f24e3fda4f14fd007427b890aa5cb79089881c46636c4de8442dfb4", func := "boscage/boscagelaw24.ScriptDecodes", spec := "scriptDecodes", apart := false }
def ScriptDecodesSaid : Prop := scriptDecodesRow.holds Try.pinned (OpenSpec.ofChange scriptDecodesSpec)

/-- ITS FALSE NEIGHBOUR: 'it returns false'. Refute it at one input. -/
def scriptDecodesWrong : ChangeSpec := { name := "scriptDecodes", fn := fun _ => fun
  | [d] => { results := [.lit (.bool false)], args := [d] }
  | _ => none }
def ScriptDecodesWrongFalsely : Prop := scriptDecodesRow.holds Try.pinned (OpenSpec.ofChange scriptDecodesWrong)

/-- 'boscagelaw24.ScriptBack': WHATEVER THE INPUT: true; the input reads as it did. -/
def scriptBackSpec : ChangeSpec := { name := "scriptBack", fn := fun _ => fun
  | [d1, d2] => { results := [.lit (.bool true)], args := [d1, d2] }
  | _ => none }
def scriptBackRow : OpenClaim := { program := "ytkommjibpeklgaa", sum := "3f0bc9591f24e3fda4f14fd007427b890aa5cb79089881c46636c4de8442dfb4", func := "boscage/boscagelaw24.ScriptBack", spec := "scriptBack", apart := false }
def ScriptBackSaid : Prop := scriptBackRow.holds Try.pinned (OpenSpec.ofChange scriptBackSpec)

/-- ITS FALSE NEIGHBOUR: 'it returns false'. Refute it at one input. -/
def scriptBackWrong : ChangeSpec := { name := "scriptBack", fn := fun _ => fun
  | [d1, d2] => { results := [.lit (.bool false)], args := [d1, d2] }
  | _ => none }
def ScriptBackWrongFalsely : Prop := scriptBackRow.holds Try.pinned (OpenSpec.ofChange scriptBackWrong)

/-- 'boscagelaw24.ScriptWhole': WHATEVER THE INPUT: true; the input reads as it did. -/
def scriptWholeSpec : ChangeSpec := { name := "scriptWhole", fn := fun _ => fun
  | [d] => { results := [.lit (.bool true)], args := [d] }
  | _ => none }
def scriptWholeRow : OpenClaim := { program := "ytkommjibpeklgaa", sum := "3f0bc9591f24e3fda4f14fd007427b890aa5cb79089881c46636c4de8442dfb4", func := "boscage/boscagelaw24.ScriptWhole", spec := "scriptWhole", apart := false }
def ScriptWholeSaid : Prop := scriptWholeRow.holds Try.pinned (OpenSpec.ofChange scriptWholeSpec)

/-- ITS FALSE NEIGHBOUR: 'it returns false'. Refute it at one input. -/
def scriptWholeWrong : ChangeSpec := { name := "scriptWhole", fn := fun _ => fun
  | [d] => { results := [.lit (.bool false)], args := [d] }
  | _ => none }
def ScriptWholeWrongFalsely : Prop := scriptWholeRow.holds Try.pinned (OpenSpec.ofChange scriptWholeWrong)

/- THE SECOND FORM. 'bulk': how many values and letters a reading holds, each counted each time it is reached (what is shared counts as often as it is met; a slice's spare places count too). A statement '..UptoSaid' is the law's where the arguments, and the package variables that the reading takes, are together of bulk at most 1048576: NARROWER than '..Said'. Prove '..Said' where nothing that the law and all that it calls make is longer than what came in: it says more and counts as full. Else prove '..UptoSaid'. A law counts once. -/
mutual
def uptoBulk {H : Type} : DataW H → Nat
  | .lit (.string bytes) => bytes.length + 1
  | .lit _ => 1
  | .nil => 1
  | .ptr d => uptoBulk d + 1
  | .slice elems spare => uptoBulkAll elems + uptoBulkAll spare + 1
  | .agg parts => uptoBulkAll parts + 1
  | .iface _ d => uptoBulk d + 1
  | .map entries => uptoBulkEntries entries + 1
  | .held _ => 1
def uptoBulkAll {H : Type} : List (DataW H) → Nat
  | [] => 0
  | d :: r => uptoBulk d + uptoBulkAll r
def uptoBulkEntries {H : Type} : List (Lit × DataW H) → Nat
  | [] => 0
  | x :: r => uptoBulkEntry x + uptoBulkEntries r
def uptoBulkEntry {H : Type} : Lit × DataW H → Nat
  | (.string bytes, d) => bytes.length + uptoBulk d + 1
  | (_, d) => uptoBulk d + 1
 end
def uptoSmall : (H : Type) → List (DataW H) → Bool := fun _ ds => decide (uptoBulkAll ds ≤ 1048576)
def OpenSpec.upto (s : _root_.Go.ChangeSpec) : _root_.Go.OpenSpec := { _root_.Go.OpenSpec.ofChange s with cond := some uptoSmall }

/-- 'boscagelaw24.ScriptRights', WHERE WHAT IT READS IS OF BULK AT MOST 1048576: true; the input reads as it did. -/
def scriptRightsUptoRow : OpenClaim := { program := "ytkommjibpeklgaa", sum := "3f0bc9591f24e3fda4f14fd007427b890aa5cb79089881c46636c4de8442dfb4", func := "boscage/boscagelaw24.ScriptRights", spec := "scriptRights", apart := false, narrowed := true }
def ScriptRightsUptoSaid : Prop := scriptRightsUptoRow.holds Try.pinned (OpenSpec.upto scriptRightsSpec)

/-- 'boscagelaw24.ScriptEncodes', WHERE WHAT IT READS IS OF BULK AT MOST 1048576: true; the input reads as it did. -/
def scriptEncodesUptoRow : OpenClaim := { program := "ytkommjibpeklgaa", sum := "3f0bc9591f24e3fda4f14fd007427b890aa5cb79089881c46636c4de8442dfb4", func := "boscage/boscagelaw24.ScriptEncodes", spec := "scriptEncodes", apart := false, narrowed := true }
def ScriptEncodesUptoSaid : Prop := scriptEncodesUptoRow.holds Try.pinned (OpenSpec.upto scriptEncodesSpec)

/-- 'boscagelaw24.ScriptJoins', WHERE WHAT IT READS IS OF BULK AT MOST 1048576: true; the input reads as it did. -/
def scriptJoinsUptoRow : OpenClaim := { program := "ytkommjibpeklgaa", sum := "3f0bc9591f24e3fda4f14fd007427b890aa5cb79089881c46636c4de8442dfb4", func := "boscage/boscagelaw24.ScriptJoins", spec := "scriptJoins", apart := false, narrowed := true }
def ScriptJoinsUptoSaid : Prop := scriptJoinsUptoRow.holds Try.pinned (OpenSpec.upto scriptJoinsSpec)

/-- 'boscagelaw24.ScriptDecodes', WHERE WHAT IT READS IS OF BULK AT MOST 1048576: true; the input reads as it did. -/
def scriptDecodesUptoRow : OpenClaim := { program := "ytkommjibpeklgaa", sum := "3f0bc9591f24e3fda4f14fd007427b890aa5cb79089881c46636c4de8442dfb4", func := "boscage/boscagelaw24.ScriptDecodes", spec := "scriptDecodes", apart := false, narrowed := true }
def ScriptDecodesUptoSaid : Prop := scriptDecodesUptoRow.holds Try.pinned (OpenSpec.upto scriptDecodesSpec)

/-- 'boscagelaw24.ScriptBack', WHERE WHAT IT READS IS OF BULK AT MOST 1048576: true; the input reads as it did. -/
def scriptBackUptoRow : OpenClaim := { program := "ytkommjibpeklgaa", sum := "3f0bc9591f24e3fda4f14fd007427b890aa5cb79089881c46636c4de8442dfb4", func := "boscage/boscagelaw24.ScriptBack", spec := "scriptBack", apart := false, narrowed := true }
def ScriptBackUptoSaid : Prop := scriptBackUptoRow.holds Try.pinned (OpenSpec.upto scriptBackSpec)

/-- 'boscagelaw24.ScriptWhole', WHERE WHAT IT READS IS OF BULK AT MOST 1048576: true; the input reads as it did. -/
def scriptWholeUptoRow : OpenClaim := { program := "ytkommjibpeklgaa", sum := "3f0bc9591f24e3fda4f14fd007427b890aa5cb79089881c46636c4de8442dfb4", func := "boscage/boscagelaw24.ScriptWhole", spec := "scriptWhole", apart := false, narrowed := true }
def ScriptWholeUptoSaid : Prop := scriptWholeUptoRow.holds Try.pinned (OpenSpec.upto scriptWholeSpec)

end Rows
end Go.Proofs.Ytkommjibpeklgaa
