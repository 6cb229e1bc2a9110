/-
  No cell of these rows narrows 'for every input' (looked for: loops, veiled, ifaces, maps, wideKeys, modest, calm, conditions, laid).
  DERIVED. THE GIVEN ROWS OF THIS SEAT. 7 by the template 'for every input the law returns true; each argument reads behind the call as it read before'; 0 by the template 'total and deterministic' (their statements: YtmnjjdeaccgjlaaGreatTotals.lean).
  GIVEN WITH THE SEED: the statements are not yours to turn. If you find one false, say at which input.
  Laid BY PROGRAM, IN A SANDBOX (cutbox-rows.mjs): the forced cells as the released guide's own fill.sh prints them over the translation adec4ff76ce4cd6b… (all of the seat's roots in one cut). By AI agents, Wed Nov 11 2026. No macro, syntax, notation, axiom, sorry.
-/
import Derived.Test.YtmnjjdeaccgjlaaGreatChecked
import GoSem.Claim
import GoSem.ClaimJoined
import GoSem.ClaimMapViews
import Derived.JoinedTies
import Derived.KernelRfl
namespace Go.Proofs.YtmnjjdeaccgjlaaGreat
/- THE CELL 'sum', in the pinned program and in every row, IS THE sha256 OF THE DUMP (.gsa) THAT YtmnjjdeaccgjlaaGreatProg.lean LOADS. Nothing in Lean hashes anything: it is a label: what it is worth is what the hold of that sum in a sandbox is worth. -/
noncomputable def Tryz.pinned : Pinned := { name := "ytmnjjdeaccgjlaagreat", sum := "adec4ff76ce4cd6b4aab2618ce4fdabcb15529fe0bf91e913fe72e89e90f5b97", checked := Tryz.checked }
namespace Rows
def none {H : Type} : Left H := { results := [], args := [] }

/-- 'boscagelaw15.PutSplits': WHATEVER THE INPUT: true; the input reads as it did. -/
def putSplitsSpec : ChangeSpec := { name := "putSplits", fn := fun _ => fun
  | [d1, d2, d3, d4] => { results := [.lit (.bool true)], args := [d1, d2, d3, d4] }
  | _ => none }
def putSplitsRow : OpenClaim := { program := "ytmnjjdeaccgjlaagreat", sum := "adec4ff76ce4cd6b4aab2618ce4fdabcb15529fe0bf91e913fe72e89e90f5b97", func := "boscage/boscagelaw15.PutSplits", spec := "putSplits", inPlace := ["slices.overlaps[boscage/leaf.Pair]", "slices.overlaps[boscage/ref.Ref]", "slices.overlaps[int64]"], unfollowed := true, recurses := true, apart := false }
def PutSplitsSaid : Prop := putSplitsRow.holds Tryz.pinned (OpenSpec.ofChange putSplitsSpec)

/-- ITS FALSE NEIGHBOUR: 'it returns false'. Refute it at one input. -/
def putSplitsWrong : ChangeSpec := { name := "putSplits", fn := fun _ => fun
  | [d1, d2, d3, d4] => { results := [.lit (.bool false)], args := [d1, d2, d3, d4] }
  | _ => none }
def PutSplitsWrongFalsely : Prop := putSplitsRow.holds Tryz.pinned (OpenSpec.ofChange putSplitsWrong)

/-- 'boscagelaw23.StageNil': WHATEVER THE INPUT: true; the input reads as it did. -/
def stageNilSpec : ChangeSpec := { name := "stageNil", fn := fun _ => fun
  | [d1, d2, d3, d4] => { results := [.lit (.bool true)], args := [d1, d2, d3, d4] }
  | _ => none }
def stageNilRow : OpenClaim := { program := "ytmnjjdeaccgjlaagreat", sum := "adec4ff76ce4cd6b4aab2618ce4fdabcb15529fe0bf91e913fe72e89e90f5b97", func := "boscage/boscagelaw23.StageNil", spec := "stageNil", inPlace := ["slices.overlaps[boscage/leaf.Pair]", "slices.overlaps[boscage/ref.Ref]", "slices.overlaps[int64]"], unfollowed := true, recurses := true, apart := false }
def StageNilSaid : Prop := stageNilRow.holds Tryz.pinned (OpenSpec.ofChange stageNilSpec)

/-- ITS FALSE NEIGHBOUR: 'it returns false'. Refute it at one input. -/
def stageNilWrong : ChangeSpec := { name := "stageNil", fn := fun _ => fun
  | [d1, d2, d3, d4] => { results := [.lit (.bool false)], args := [d1, d2, d3, d4] }
  | _ => none }
def StageNilWrongFalsely : Prop := stageNilRow.holds Tryz.pinned (OpenSpec.ofChange stageNilWrong)

/-- 'boscagelaw23.StageNew': WHATEVER THE INPUT: true; the input reads as it did. -/
def stageNewSpec : ChangeSpec := { name := "stageNew", fn := fun _ => fun
  | [d] => { results := [.lit (.bool true)], args := [d] }
  | _ => none }
def stageNewRow : OpenClaim := { program := "ytmnjjdeaccgjlaagreat", sum := "adec4ff76ce4cd6b4aab2618ce4fdabcb15529fe0bf91e913fe72e89e90f5b97", func := "boscage/boscagelaw23.StageNew", spec := "stageNew", inPlace := ["slices.overlaps[boscage/leaf.Pair]", "slices.overlaps[boscage/ref.Ref]", "slices.overlaps[int64]"], unfollowed := true, recurses := true, apart := false }
def StageNewSaid : Prop := stageNewRow.holds Tryz.pinned (OpenSpec.ofChange stageNewSpec)

/-- ITS FALSE NEIGHBOUR: 'it returns false'. Refute it at one input. -/
def stageNewWrong : ChangeSpec := { name := "stageNew", fn := fun _ => fun
  | [d] => { results := [.lit (.bool false)], args := [d] }
  | _ => none }
def StageNewWrongFalsely : Prop := stageNewRow.holds Tryz.pinned (OpenSpec.ofChange stageNewWrong)

/-- 'boscagelaw12.TagFixes': WHATEVER THE INPUT: true; the input reads as it did. -/
def tagFixesSpec : ChangeSpec := { name := "tagFixes", fn := fun _ => fun
  | [d1, d2, d3] => { results := [.lit (.bool true)], args := [d1, d2, d3] }
  | _ => none }
def tagFixesRow : OpenClaim := { program := "ytmnjjdeaccgjlaagreat", sum := "adec4ff76ce4cd6b4aab2618ce4fdabcb15529fe0bf91e913fe72e89e90f5b97", func := "boscage/boscagelaw12.TagFixes", spec := "tagFixes", inPlace := ["slices.overlaps[boscage/ref.Ref]", "slices.overlaps[int64]"], unfollowed := true, recurses := true, apart := false }
def TagFixesSaid : Prop := tagFixesRow.holds Tryz.pinned (OpenSpec.ofChange tagFixesSpec)

/-- ITS FALSE NEIGHBOUR: 'it returns false'. Refute it at one input. -/
def tagFixesWrong : ChangeSpec := { name := "tagFixes", fn := fun _ => fun
  | [d1, d2, d3] => { results := [.lit (.bool false)], args := [d1, d2, d3] }
  | _ => none }
def TagFixesWrongFalsely : Prop := tagFixesRow.holds Tryz.pinned (OpenSpec.ofChange tagFixesWrong)

/-- 'boscagelaw12.TagShort': WHATEVER THE INPUT: true; the input reads as it did. -/
def tagShortSpec : ChangeSpec := { name := "tagShort", fn := fun _ => fun
  | [d1, d2, d3, d4, d5] => { results := [.lit (.bool true)], args := [d1, d2, d3, d4, d5] }
  | _ => none }
def tagShortRow : OpenClaim := { program := "ytmnjjdeaccgjlaagreat", sum := "adec4ff76ce4cd6b4aab2618ce4fdabcb15529fe0bf91e913fe72e89e90f5b97", func := "boscage/boscagelaw12.TagShort", spec := "tagShort", inPlace := ["slices.overlaps[boscage/ref.Ref]", "slices.overlaps[int64]"], unfollowed := true, recurses := true, apart := false }
def TagShortSaid : Prop := tagShortRow.holds Tryz.pinned (OpenSpec.ofChange tagShortSpec)

/-- ITS FALSE NEIGHBOUR: 'it returns false'. Refute it at one input. -/
def tagShortWrong : ChangeSpec := { name := "tagShort", fn := fun _ => fun
  | [d1, d2, d3, d4, d5] => { results := [.lit (.bool false)], args := [d1, d2, d3, d4, d5] }
  | _ => none }
def TagShortWrongFalsely : Prop := tagShortRow.holds Tryz.pinned (OpenSpec.ofChange tagShortWrong)

/-- 'boscagelaw15.PutFresh': WHATEVER THE INPUT: true; the input reads as it did. -/
def putFreshSpec : ChangeSpec := { name := "putFresh", fn := fun _ => fun
  | [d1, d2, d3, d4] => { results := [.lit (.bool true)], args := [d1, d2, d3, d4] }
  | _ => none }
def putFreshRow : OpenClaim := { program := "ytmnjjdeaccgjlaagreat", sum := "adec4ff76ce4cd6b4aab2618ce4fdabcb15529fe0bf91e913fe72e89e90f5b97", func := "boscage/boscagelaw15.PutFresh", spec := "putFresh", inPlace := ["slices.overlaps[boscage/leaf.Pair]", "slices.overlaps[boscage/ref.Ref]", "slices.overlaps[int64]"], unfollowed := true, recurses := true, apart := false }
def PutFreshSaid : Prop := putFreshRow.holds Tryz.pinned (OpenSpec.ofChange putFreshSpec)

/-- ITS FALSE NEIGHBOUR: 'it returns false'. Refute it at one input. -/
def putFreshWrong : ChangeSpec := { name := "putFresh", fn := fun _ => fun
  | [d1, d2, d3, d4] => { results := [.lit (.bool false)], args := [d1, d2, d3, d4] }
  | _ => none }
def PutFreshWrongFalsely : Prop := putFreshRow.holds Tryz.pinned (OpenSpec.ofChange putFreshWrong)

/-- 'boscagelaw19.AskAlone': WHATEVER THE INPUT: true; the input reads as it did. -/
def askAloneSpec : ChangeSpec := { name := "askAlone", fn := fun _ => fun
  | [d1, d2, d3, d4] => { results := [.lit (.bool true)], args := [d1, d2, d3, d4] }
  | _ => none }
def askAloneRow : OpenClaim := { program := "ytmnjjdeaccgjlaagreat", sum := "adec4ff76ce4cd6b4aab2618ce4fdabcb15529fe0bf91e913fe72e89e90f5b97", func := "boscage/boscagelaw19.AskAlone", spec := "askAlone", inPlace := ["slices.overlaps[boscage/leaf.Pair]", "slices.overlaps[boscage/ref.Ref]", "slices.overlaps[int64]"], unfollowed := true, recurses := true, apart := false }
def AskAloneSaid : Prop := askAloneRow.holds Tryz.pinned (OpenSpec.ofChange askAloneSpec)

/-- ITS FALSE NEIGHBOUR: 'it returns false'. Refute it at one input. -/
def askAloneWrong : ChangeSpec := { name := "askAlone", fn := fun _ => fun
  | [d1, d2, d3, d4] => { results := [.lit (.bool false)], args := [d1, d2, d3, d4] }
  | _ => none }
def AskAloneWrongFalsely : Prop := askAloneRow.holds Tryz.pinned (OpenSpec.ofChange askAloneWrong)

/- THE SECOND FORM. 'bulk': how many values and letters a reading holds, each counted each time it is reached (what is shared counts as often as it is met; a slice's spare places count too). A statement '..UptoSaid' is the law's where the arguments, and the package variables that the reading takes, are together of bulk at most 1048576: NARROWER than '..Said'. Prove '..Said' where nothing that the law and all that it calls make is longer than what came in: it says more and counts as full. Else prove '..UptoSaid'. A law counts once. -/
mutual
def uptoBulk {H : Type} : DataW H → Nat
  | .lit (.string bytes) => bytes.length + 1
  | .lit _ => 1
  | .nil => 1
  | .ptr d => uptoBulk d + 1
  | .slice elems spare => uptoBulkAll elems + uptoBulkAll spare + 1
  | .agg parts => uptoBulkAll parts + 1
  | .iface _ d => uptoBulk d + 1
  | .map entries => uptoBulkEntries entries + 1
  | .held _ => 1
def uptoBulkAll {H : Type} : List (DataW H) → Nat
  | [] => 0
  | d :: r => uptoBulk d + uptoBulkAll r
def uptoBulkEntries {H : Type} : List (Lit × DataW H) → Nat
  | [] => 0
  | x :: r => uptoBulkEntry x + uptoBulkEntries r
def uptoBulkEntry {H : Type} : Lit × DataW H → Nat
  | (.string bytes, d) => bytes.length + uptoBulk d + 1
  | (_, d) => uptoBulk d + 1
 end
def uptoSmall : (H : Type) → List (DataW H) → Bool := fun _ ds => decide (uptoBulkAll ds ≤ 1048576)
def OpenSpec.upto (s : _root_.Go.ChangeSpec) : _root_.Go.OpenSpec := { _root_.Go.OpenSpec.ofChange s with cond := some uptoSmall }

/-- 'boscagelaw15.PutSplits', WHERE WHAT IT READS IS OF BULK AT MOST 1048576: true; the input reads as it did. -/
def putSplitsUptoRow : OpenClaim := { program := "ytmnjjdeaccgjlaagreat", sum := "adec4ff76ce4cd6b4aab2618ce4fdabcb15529fe0bf91e913fe72e89e90f5b97", func := "boscage/boscagelaw15.PutSplits", spec := "putSplits", inPlace := ["slices.overlaps[boscage/leaf.Pair]", "slices.overlaps[boscage/ref.Ref]", "slices.overlaps[int64]"], unfollowed := true, recurses := true, apart := false, narrowed := true }
def PutSplitsUptoSaid : Prop := putSplitsUptoRow.holds Tryz.pinned (OpenSpec.upto putSplitsSpec)

/-- 'boscagelaw23.StageNil', WHERE WHAT IT READS IS OF BULK AT MOST 1048576: true; the input reads as it did. -/
def stageNilUptoRow : OpenClaim := { program := "ytmnjjdeaccgjlaagreat", sum := "adec4ff76ce4cd6b4aab2618ce4fdabcb15529fe0bf91e913fe72e89e90f5b97", func := "boscage/boscagelaw23.StageNil", spec := "stageNil", inPlace := ["slices.overlaps[boscage/leaf.Pair]", "slices.overlaps[boscage/ref.Ref]", "slices.overlaps[int64]"], unfollowed := true, recurses := true, apart := false, narrowed := true }
def StageNilUptoSaid : Prop := stageNilUptoRow.holds Tryz.pinned (OpenSpec.upto stageNilSpec)

/-- 'boscagelaw23.StageNew', WHERE WHAT IT READS IS OF BULK AT MOST 1048576: true; the input reads as it did. -/
def stageNewUptoRow : OpenClaim := { program := "ytmnjjdeaccgjlaagreat", sum := "adec4ff76ce4cd6b4aab2618ce4fdabcb15529fe0bf91e913fe72e89e90f5b97", func := "boscage/boscagelaw23.StageNew", spec := "stageNew", inPlace := ["slices.overlaps[boscage/leaf.Pair]", "slices.overlaps[boscage/ref.Ref]", "slices.overlaps[int64]"], unfollowed := true, recurses := true, apart := false, narrowed := true }
def StageNewUptoSaid : Prop := stageNewUptoRow.holds Tryz.pinned (OpenSpec.upto stageNewSpec)

/-- 'boscagelaw12.TagFixes', WHERE WHAT IT READS IS OF BULK AT MOST 1048576: true; the input reads as it did. -/
def tagFixesUptoRow : OpenClaim := { program := "ytmnjjdeaccgjlaagreat", sum := "adec4ff76ce4cd6b4aab2618ce4fdabcb15529fe0bf91e913fe72e89e90f5b97", func := "boscage/boscagelaw12.TagFixes", spec := "tagFixes", inPlace := ["slices.overlaps[boscage/ref.Ref]", "slices.overlaps[int64]"], unfollowed := true, recurses := true, apart := false, narrowed := true }
def TagFixesUptoSaid : Prop := tagFixesUptoRow.holds Tryz.pinned (OpenSpec.upto tagFixesSpec)

/-- 'boscagelaw12.TagShort', WHERE WHAT IT READS IS OF BULK AT MOST 1048576: true; the input reads as it did. -/
def tagShortUptoRow : OpenClaim := { program := "ytmnjjdeaccgjlaagreat", sum := "adec4ff76ce4cd6b4aab2618ce4fdabcb15529fe0bf91e913fe72e89e90f5b97", func := "boscage/boscagelaw12.TagShort", spec := "tagShort", inPlace := ["slices.overlaps[boscage/ref.Ref]", "slices.overlaps[int64]"], unfollowed := true, recurses := true, apart := false, narrowed := true }
def TagShortUptoSaid : Prop := tagShortUptoRow.holds Tryz.pinned (OpenSpec.upto tagShortSpec)

/-- 'boscagelaw15.PutFresh', WHERE WHAT IT READS IS OF BULK AT MOST 1048576: true; the input reads as it did. -/
def putFreshUptoRow : OpenClaim := { program := "ytmnjjdeaccgjlaagreat", sum := "adec4ff76ce4cd6b4aab2618ce4fdabcb15529fe0bf91e913fe72e89e90f5b97", func := "boscage/boscagelaw15.PutFresh", spec := "putFresh", inPlace := ["slices.overlaps[boscage/leaf.Pair]", "slices.overlaps[boscage/ref.Ref]", "slices.overlaps[int64]"], unfollowed := true, recurses := true, apart := false, narrowed := true }
def PutFreshUptoSaid : Prop := putFreshUptoRow.holds Tryz.pinned (OpenSpec.upto putFreshSpec)

/-- 'boscagelaw19.AskAlone', WHERE WHAT IT READS IS OF BULK AT MOST 1048576: true; the input reads as it did. -/
def askAloneUptoRow : OpenClaim := { program := "ytmnjjdeaccgjlaagreat", sum := "adec4ff76ce4cd6b4aab2618ce4fdabcb15529fe0bf91e913fe72e89e90f5b97", func := "boscage/boscagelaw19.AskAlone", spec := "askAlone", inPlace := ["slices.overlaps[boscage/leaf.Pair]", "slices.overlaps[boscage/ref.Ref]", "slices.overlaps[int64]"], unfollowed := true, recurses := true, apart := false, narrowed := true }
def AskAloneUptoSaid : Prop := askAloneUptoRow.holds Tryz.pinned (OpenSpec.upto askAloneSpec)

end Rows
end Go.Proofs.YtmnjjdeaccgjlaaGreat
