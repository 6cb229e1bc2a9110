/-
  No cell of these rows narrows 'for every input' (looked for: loops, veiled, ifaces, maps, wideKeys, modest, calm, conditions, laid).
  DERIVED. THE GIVEN ROWS OF THIS SEAT. 6 by the template 'for every input the law returns true; each argument reads behind the call as it read before'; 0 by the template 'total and deterministic' (their statements: YthlmgbdknjilpaaGreatTotals.lean).
  GIVEN WITH THE SEED: the statements are not yours to turn. If you find one false, say at which input.
  Laid BY PROGRAM, IN A SANDBOX (cutbox-rows.mjs): the forced cells as the released guide's own fill.sh prints them over the translation 782f9a64eaa3d25c… (all of the seat's roots in one cut). By AI agents, Wed Nov 11 2026. No macro, syntax, notation, axiom, sorry.
-/
import Derived.Test.YthlmgbdknjilpaaGreatChecked
import GoSem.Claim
import GoSem.ClaimJoined
import GoSem.ClaimMapViews
import Derived.JoinedTies
import Derived.KernelRfl
namespace Go.Proofs.YthlmgbdknjilpaaGreat
/- THE CELL 'sum', in the pinned program and in every row, IS THE sha256 OF THE DUMP (.gsa) THAT YthlmgbdknjilpaaGreatProg.lean LOADS. Nothing in Lean hashes anything: it is a label: what it is worth is what the hold of that sum in a sandbox is worth. -/
noncomputable def Tryz.pinned : Pinned := { name := "ythlmgbdknjilpaagreat", sum := "782f9a64eaa3d25c1fa3a9f5f6026209fa43dde29636476997bc19831afd3746", checked := Tryz.checked }
namespace Rows
def none {H : Type} : Left H := { results := [], args := [] }

/-- 'boscagelaw19.AskCodes': WHATEVER THE INPUT: true; the input reads as it did. -/
def askCodesSpec : ChangeSpec := { name := "askCodes", fn := fun _ => fun
  | [d] => { results := [.lit (.bool true)], args := [d] }
  | _ => none }
def askCodesRow : OpenClaim := { program := "ythlmgbdknjilpaagreat", sum := "782f9a64eaa3d25c1fa3a9f5f6026209fa43dde29636476997bc19831afd3746", func := "boscage/boscagelaw19.AskCodes", spec := "askCodes", inPlace := ["slices.overlaps[boscage/leaf.Pair]", "slices.overlaps[boscage/ref.Ref]", "slices.overlaps[int64]"], unfollowed := true, recurses := true, apart := false }
def AskCodesSaid : Prop := askCodesRow.holds Tryz.pinned (OpenSpec.ofChange askCodesSpec)

/-- ITS FALSE NEIGHBOUR: 'it returns false'. Refute it at one input. -/
def askCodesWrong : ChangeSpec := { name := "askCodes", fn := fun _ => fun
  | [d] => { results := [.lit (.bool false)], args := [d] }
  | _ => none }
def AskCodesWrongFalsely : Prop := askCodesRow.holds Tryz.pinned (OpenSpec.ofChange askCodesWrong)

/-- 'boscagelaw19.AskReads': WHATEVER THE INPUT: true; the input reads as it did. -/
def askReadsSpec : ChangeSpec := { name := "askReads", fn := fun _ => fun
  | [d] => { results := [.lit (.bool true)], args := [d] }
  | _ => none }
def askReadsRow : OpenClaim := { program := "ythlmgbdknjilpaagreat", sum := "782f9a64eaa3d25c1fa3a9f5f6026209fa43dde29636476997bc19831afd3746", func := "boscage/boscagelaw19.AskReads", spec := "askReads", inPlace := ["slices.overlaps[boscage/leaf.Pair]", "slices.overlaps[boscage/ref.Ref]", "slices.overlaps[int64]"], unfollowed := true, recurses := true, apart := false }
def AskReadsSaid : Prop := askReadsRow.holds Tryz.pinned (OpenSpec.ofChange askReadsSpec)

/-- ITS FALSE NEIGHBOUR: 'it returns false'. Refute it at one input. -/
def askReadsWrong : ChangeSpec := { name := "askReads", fn := fun _ => fun
  | [d] => { results := [.lit (.bool false)], args := [d] }
  | _ => none }
def AskReadsWrongFalsely : Prop := askReadsRow.holds Tryz.pinned (OpenSpec.ofChange askReadsWrong)

/-- 'boscagelaw19.AskKinds': WHATEVER THE INPUT: true; the input reads as it did. -/
def askKindsSpec : ChangeSpec := { name := "askKinds", fn := fun _ => fun
  | [d1, d2, d3] => { results := [.lit (.bool true)], args := [d1, d2, d3] }
  | _ => none }
def askKindsRow : OpenClaim := { program := "ythlmgbdknjilpaagreat", sum := "782f9a64eaa3d25c1fa3a9f5f6026209fa43dde29636476997bc19831afd3746", func := "boscage/boscagelaw19.AskKinds", spec := "askKinds", inPlace := ["slices.overlaps[boscage/leaf.Pair]", "slices.overlaps[boscage/ref.Ref]", "slices.overlaps[int64]"], unfollowed := true, recurses := true, apart := false }
def AskKindsSaid : Prop := askKindsRow.holds Tryz.pinned (OpenSpec.ofChange askKindsSpec)

/-- ITS FALSE NEIGHBOUR: 'it returns false'. Refute it at one input. -/
def askKindsWrong : ChangeSpec := { name := "askKinds", fn := fun _ => fun
  | [d1, d2, d3] => { results := [.lit (.bool false)], args := [d1, d2, d3] }
  | _ => none }
def AskKindsWrongFalsely : Prop := askKindsRow.holds Tryz.pinned (OpenSpec.ofChange askKindsWrong)

/-- 'boscagelaw19.AskAlone': WHATEVER THE INPUT: true; the input reads as it did. -/
def askAloneSpec : ChangeSpec := { name := "askAlone", fn := fun _ => fun
  | [d1, d2, d3, d4] => { results := [.lit (.bool true)], args := [d1, d2, d3, d4] }
  | _ => none }
def askAloneRow : OpenClaim := { program := "ythlmgbdknjilpaagreat", sum := "782f9a64eaa3d25c1fa3a9f5f6026209fa43dde29636476997bc19831afd3746", func := "boscage/boscagelaw19.AskAlone", spec := "askAlone", inPlace := ["slices.overlaps[boscage/leaf.Pair]", "slices.overlaps[boscage/ref.Ref]", "slices.overlaps[int64]"], unfollowed := true, recurses := true, apart := false }
def AskAloneSaid : Prop := askAloneRow.holds Tryz.pinned (OpenSpec.ofChange askAloneSpec)

/-- ITS FALSE NEIGHBOUR: 'it returns false'. Refute it at one input. -/
def askAloneWrong : ChangeSpec := { name := "askAlone", fn := fun _ => fun
  | [d1, d2, d3, d4] => { results := [.lit (.bool false)], args := [d1, d2, d3, d4] }
  | _ => none }
def AskAloneWrongFalsely : Prop := askAloneRow.holds Tryz.pinned (OpenSpec.ofChange askAloneWrong)

/-- 'boscagelaw19.AskMixed': WHATEVER THE INPUT: true; the input reads as it did. -/
def askMixedSpec : ChangeSpec := { name := "askMixed", fn := fun _ => fun
  | [d1, d2, d3, d4] => { results := [.lit (.bool true)], args := [d1, d2, d3, d4] }
  | _ => none }
def askMixedRow : OpenClaim := { program := "ythlmgbdknjilpaagreat", sum := "782f9a64eaa3d25c1fa3a9f5f6026209fa43dde29636476997bc19831afd3746", func := "boscage/boscagelaw19.AskMixed", spec := "askMixed", inPlace := ["slices.overlaps[boscage/leaf.Pair]", "slices.overlaps[boscage/ref.Ref]", "slices.overlaps[int64]"], unfollowed := true, recurses := true, apart := false }
def AskMixedSaid : Prop := askMixedRow.holds Tryz.pinned (OpenSpec.ofChange askMixedSpec)

/-- ITS FALSE NEIGHBOUR: 'it returns false'. Refute it at one input. -/
def askMixedWrong : ChangeSpec := { name := "askMixed", fn := fun _ => fun
  | [d1, d2, d3, d4] => { results := [.lit (.bool false)], args := [d1, d2, d3, d4] }
  | _ => none }
def AskMixedWrongFalsely : Prop := askMixedRow.holds Tryz.pinned (OpenSpec.ofChange askMixedWrong)

/-- 'boscagelaw19.AskFrees': WHATEVER THE INPUT: true; the input reads as it did. -/
def askFreesSpec : ChangeSpec := { name := "askFrees", fn := fun _ => fun
  | [d1, d2, d3, d4] => { results := [.lit (.bool true)], args := [d1, d2, d3, d4] }
  | _ => none }
def askFreesRow : OpenClaim := { program := "ythlmgbdknjilpaagreat", sum := "782f9a64eaa3d25c1fa3a9f5f6026209fa43dde29636476997bc19831afd3746", func := "boscage/boscagelaw19.AskFrees", spec := "askFrees", inPlace := ["slices.overlaps[boscage/leaf.Pair]", "slices.overlaps[boscage/ref.Ref]", "slices.overlaps[int64]"], unfollowed := true, recurses := true, apart := false }
def AskFreesSaid : Prop := askFreesRow.holds Tryz.pinned (OpenSpec.ofChange askFreesSpec)

/-- ITS FALSE NEIGHBOUR: 'it returns false'. Refute it at one input. -/
def askFreesWrong : ChangeSpec := { name := "askFrees", fn := fun _ => fun
  | [d1, d2, d3, d4] => { results := [.lit (.bool false)], args := [d1, d2, d3, d4] }
  | _ => none }
def AskFreesWrongFalsely : Prop := askFreesRow.holds Tryz.pinned (OpenSpec.ofChange askFreesWrong)

/- THE SECOND FORM. 'bulk': how many values and letters a reading holds, each counted each time it is reached (what is shared counts as often as it is met; a slice's spare places count too). A statement '..UptoSaid' is the law's where the arguments, and the package variables that the reading takes, are together of bulk at most 1048576: NARROWER than '..Said'. Prove '..Said' where nothing that the law and all that it calls make is longer than what came in: it says more and counts as full. Else prove '..UptoSaid'. A law counts once. -/
mutual
def uptoBulk {H : Type} : DataW H → Nat
  | .lit (.string bytes) => bytes.length + 1
  | .lit _ => 1
  | .nil => 1
  | .ptr d => uptoBulk d + 1
  | .slice elems spare => uptoBulkAll elems + uptoBulkAll spare + 1
  | .agg parts => uptoBulkAll parts + 1
  | .iface _ d => uptoBulk d + 1
  | .map entries => uptoBulkEntries entries + 1
  | .held _ => 1
def uptoBulkAll {H : Type} : List (DataW H) → Nat
  | [] => 0
  | d :: r => uptoBulk d + uptoBulkAll r
def uptoBulkEntries {H : Type} : List (Lit × DataW H) → Nat
  | [] => 0
  | x :: r => uptoBulkEntry x + uptoBulkEntries r
def uptoBulkEntry {H : Type} : Lit × DataW H → Nat
  | (.string bytes, d) => bytes.length + uptoBulk d + 1
  | (_, d) => uptoBulk d + 1
 end
def uptoSmall : (H : Type) → List (DataW H) → Bool := fun _ ds => decide (uptoBulkAll ds ≤ 1048576)
def OpenSpec.upto (s : _root_.Go.ChangeSpec) : _root_.Go.OpenSpec := { _root_.Go.OpenSpec.ofChange s with cond := some uptoSmall }

/-- 'boscagelaw19.AskCodes', WHERE WHAT IT READS IS OF BULK AT MOST 1048576: true; the input reads as it did. -/
def askCodesUptoRow : OpenClaim := { program := "ythlmgbdknjilpaagreat", sum := "782f9a64eaa3d25c1fa3a9f5f6026209fa43dde29636476997bc19831afd3746", func := "boscage/boscagelaw19.AskCodes", spec := "askCodes", inPlace := ["slices.overlaps[boscage/leaf.Pair]", "slices.overlaps[boscage/ref.Ref]", "slices.overlaps[int64]"], unfollowed := true, recurses := true, apart := false, narrowed := true }
def AskCodesUptoSaid : Prop := askCodesUptoRow.holds Tryz.pinned (OpenSpec.upto askCodesSpec)

/-- 'boscagelaw19.AskReads', WHERE WHAT IT READS IS OF BULK AT MOST 1048576: true; the input reads as it did. -/
def askReadsUptoRow : OpenClaim := { program := "ythlmgbdknjilpaagreat", sum := "782f9a64eaa3d25c1fa3a9f5f6026209fa43dde29636476997bc19831afd3746", func := "boscage/boscagelaw19.AskReads", spec := "askReads", inPlace := ["slices.overlaps[boscage/leaf.Pair]", "slices.overlaps[boscage/ref.Ref]", "slices.overlaps[int64]"], unfollowed := true, recurses := true, apart := false, narrowed := true }
def AskReadsUptoSaid : Prop := askReadsUptoRow.holds Tryz.pinned (OpenSpec.upto askReadsSpec)

/-- 'boscagelaw19.AskKinds', WHERE WHAT IT READS IS OF BULK AT MOST 1048576: true; the input reads as it did. -/
def askKindsUptoRow : OpenClaim := { program := "ythlmgbdknjilpaagreat", sum := "782f9a64eaa3d25c1fa3a9f5f6026209fa43dde29636476997bc19831afd3746", func := "boscage/boscagelaw19.AskKinds", spec := "askKinds", inPlace := ["slices.overlaps[boscage/leaf.Pair]", "slices.overlaps[boscage/ref.Ref]", "slices.overlaps[int64]"], unfollowed := true, recurses := true, apart := false, narrowed := true }
def AskKindsUptoSaid : Prop := askKindsUptoRow.holds Tryz.pinned (OpenSpec.upto askKindsSpec)

/-- 'boscagelaw19.AskAlone', WHERE WHAT IT READS IS OF BULK AT MOST 1048576: true; the input reads as it did. -/
def askAloneUptoRow : OpenClaim := { program := "ythlmgbdknjilpaagreat", sum := "782f9a64eaa3d25c1fa3a9f5f6026209fa43dde29636476997bc19831afd3746", func := "boscage/boscagelaw19.AskAlone", spec := "askAlone", inPlace := ["slices.overlaps[boscage/leaf.Pair]", "slices.overlaps[boscage/ref.Ref]", "slices.overlaps[int64]"], unfollowed := true, recurses := true, apart := false, narrowed := true }
def AskAloneUptoSaid : Prop := askAloneUptoRow.holds Tryz.pinned (OpenSpec.upto askAloneSpec)

/-- 'boscagelaw19.AskMixed', WHERE WHAT IT READS IS OF BULK AT MOST 1048576: true; the input reads as it did. -/
def askMixedUptoRow : OpenClaim := { program := "ythlmgbdknjilpaagreat", sum := "782f9a64eaa3d25c1fa3a9f5f6026209fa43dde29636476997bc19831afd3746", func := "boscage/boscagelaw19.AskMixed", spec := "askMixed", inPlace := ["slices.overlaps[boscage/leaf.Pair]", "slices.overlaps[boscage/ref.Ref]", "slices.overlaps[int64]"], unfollowed := true, recurses := true, apart := false, narrowed := true }
def AskMixedUptoSaid : Prop := askMixedUptoRow.holds Tryz.pinned (OpenSpec.upto askMixedSpec)

/-- 'boscagelaw19.AskFrees', WHERE WHAT IT READS IS OF BULK AT MOST 1048576: true; the input reads as it did. -/
def askFreesUptoRow : OpenClaim := { program := "ythlmgbdknjilpaagreat", sum := "782f9a64eaa3d25c1fa3a9f5f6026209fa43dde29636476997bc19831afd3746", func := "boscage/boscagelaw19.AskFrees", spec := "askFrees", inPlace := ["slices.overlaps[boscage/leaf.Pair]", "slices.overlaps[boscage/ref.Ref]", "slices.overlaps[int64]"], unfollowed := true, recurses := true, apart := false, narrowed := true }
def AskFreesUptoSaid : Prop := askFreesUptoRow.holds Tryz.pinned (OpenSpec.upto askFreesSpec)

end Rows
end Go.Proofs.YthlmgbdknjilpaaGreat
