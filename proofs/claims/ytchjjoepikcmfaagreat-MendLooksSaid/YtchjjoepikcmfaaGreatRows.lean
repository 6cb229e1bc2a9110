/-
  No cell of these rows narrows 'for every input' (looked for: loops, veiled, ifaces, maps, wideKeys, modest, calm, conditions, laid).
  DERIVED. THE GIVEN ROWS OF THIS SEAT. 9 by the template 'for every input the law returns true; each argument reads behind the call as it read before'; 0 by the template 'total and deterministic' (their statements: YtchjjoepikcmfaaGreatTotals.lean).
  GIVEN WITH THE SEED: the statements are not yours to turn. If you find one false, say at which input.
  Laid BY PROGRAM, IN A SANDBOX (cutbox-rows.mjs): the forced cells as the released guide's own fill.sh prints them over the translation 42a1dd2a8245477d… (all of the seat's roots in one cut). By AI agents, Wed Nov 11 2026. No macro, syntax, notation, axiom, sorry.
-/
import Derived.Test.YtchjjoepikcmfaaGreatChecked
import GoSem.Claim
import GoSem.ClaimJoined
import GoSem.ClaimMapViews
import Derived.JoinedTies
import Derived.KernelRfl
namespace Go.Proofs.YtchjjoepikcmfaaGreat
/- THE CELL 'sum', in the pinned program and in every row, IS THE sha256 OF THE DUMP (.gsa) THAT YtchjjoepikcmfaaGreatProg.lean LOADS. Nothing in Lean hashes anything: it is a label: what it is worth is what the hold of that sum in a sandbox is worth. -/
noncomputable def Tryz.pinned : Pinned := { name := "ytchjjoepikcmfaagreat", sum := "42a1dd2a8245477d1a83bc3ddb48682d62c40397ed7927814dfa3d19df52527d", checked := Tryz.checked }
namespace Rows
def none {H : Type} : Left H := { results := [], args := [] }

/-- 'boscagelaw14.MendLooks': WHATEVER THE INPUT: true; the input reads as it did. -/
def mendLooksSpec : ChangeSpec := { name := "mendLooks", fn := fun _ => fun
  | [d1, d2, d3] => { results := [.lit (.bool true)], args := [d1, d2, d3] }
  | _ => none }
def mendLooksRow : OpenClaim := { program := "ytchjjoepikcmfaagreat", sum := "42a1dd2a8245477d1a83bc3ddb48682d62c40397ed7927814dfa3d19df52527d", func := "boscage/boscagelaw14.MendLooks", spec := "mendLooks", inPlace := ["slices.overlaps[boscage/ref.Ref]", "slices.overlaps[int64]"], unfollowed := true, recurses := true, apart := false }
def MendLooksSaid : Prop := mendLooksRow.holds Tryz.pinned (OpenSpec.ofChange mendLooksSpec)

/-- ITS FALSE NEIGHBOUR: 'it returns false'. Refute it at one input. -/
def mendLooksWrong : ChangeSpec := { name := "mendLooks", fn := fun _ => fun
  | [d1, d2, d3] => { results := [.lit (.bool false)], args := [d1, d2, d3] }
  | _ => none }
def MendLooksWrongFalsely : Prop := mendLooksRow.holds Tryz.pinned (OpenSpec.ofChange mendLooksWrong)

/-- 'boscagelaw12.TagAll': WHATEVER THE INPUT: true; the input reads as it did. -/
def tagAllSpec : ChangeSpec := { name := "tagAll", fn := fun _ => fun
  | [d1, d2] => { results := [.lit (.bool true)], args := [d1, d2] }
  | _ => none }
def tagAllRow : OpenClaim := { program := "ytchjjoepikcmfaagreat", sum := "42a1dd2a8245477d1a83bc3ddb48682d62c40397ed7927814dfa3d19df52527d", func := "boscage/boscagelaw12.TagAll", spec := "tagAll", inPlace := ["slices.overlaps[boscage/ref.Ref]", "slices.overlaps[int64]"], unfollowed := true, recurses := true, apart := false }
def TagAllSaid : Prop := tagAllRow.holds Tryz.pinned (OpenSpec.ofChange tagAllSpec)

/-- ITS FALSE NEIGHBOUR: 'it returns false'. Refute it at one input. -/
def tagAllWrong : ChangeSpec := { name := "tagAll", fn := fun _ => fun
  | [d1, d2] => { results := [.lit (.bool false)], args := [d1, d2] }
  | _ => none }
def TagAllWrongFalsely : Prop := tagAllRow.holds Tryz.pinned (OpenSpec.ofChange tagAllWrong)

/-- 'boscagelaw12.TagFixes': WHATEVER THE INPUT: true; the input reads as it did. -/
def tagFixesSpec : ChangeSpec := { name := "tagFixes", fn := fun _ => fun
  | [d1, d2, d3] => { results := [.lit (.bool true)], args := [d1, d2, d3] }
  | _ => none }
def tagFixesRow : OpenClaim := { program := "ytchjjoepikcmfaagreat", sum := "42a1dd2a8245477d1a83bc3ddb48682d62c40397ed7927814dfa3d19df52527d", func := "boscage/boscagelaw12.TagFixes", spec := "tagFixes", inPlace := ["slices.overlaps[boscage/ref.Ref]", "slices.overlaps[int64]"], unfollowed := true, recurses := true, apart := false }
def TagFixesSaid : Prop := tagFixesRow.holds Tryz.pinned (OpenSpec.ofChange tagFixesSpec)

/-- ITS FALSE NEIGHBOUR: 'it returns false'. Refute it at one input. -/
def tagFixesWrong : ChangeSpec := { name := "tagFixes", fn := fun _ => fun
  | [d1, d2, d3] => { results := [.lit (.bool false)], args := [d1, d2, d3] }
  | _ => none }
def TagFixesWrongFalsely : Prop := tagFixesRow.holds Tryz.pinned (OpenSpec.ofChange tagFixesWrong)

/-- 'boscagelaw12.TagShort': WHATEVER THE INPUT: true; the input reads as it did. -/
def tagShortSpec : ChangeSpec := { name := "tagShort", fn := fun _ => fun
  | [d1, d2, d3, d4, d5] => { results := [.lit (.bool true)], args := [d1, d2, d3, d4, d5] }
  | _ => none }
def tagShortRow : OpenClaim := { program := "ytchjjoepikcmfaagreat", sum := "42a1dd2a8245477d1a83bc3ddb48682d62c40397ed7927814dfa3d19df52527d", func := "boscage/boscagelaw12.TagShort", spec := "tagShort", inPlace := ["slices.overlaps[boscage/ref.Ref]", "slices.overlaps[int64]"], unfollowed := true, recurses := true, apart := false }
def TagShortSaid : Prop := tagShortRow.holds Tryz.pinned (OpenSpec.ofChange tagShortSpec)

/-- ITS FALSE NEIGHBOUR: 'it returns false'. Refute it at one input. -/
def tagShortWrong : ChangeSpec := { name := "tagShort", fn := fun _ => fun
  | [d1, d2, d3, d4, d5] => { results := [.lit (.bool false)], args := [d1, d2, d3, d4, d5] }
  | _ => none }
def TagShortWrongFalsely : Prop := tagShortRow.holds Tryz.pinned (OpenSpec.ofChange tagShortWrong)

/-- 'boscagelaw13.DegreeAll': WHATEVER THE INPUT: true; the input reads as it did. -/
def degreeAllSpec : ChangeSpec := { name := "degreeAll", fn := fun _ => fun
  | [d1, d2, d3] => { results := [.lit (.bool true)], args := [d1, d2, d3] }
  | _ => none }
def degreeAllRow : OpenClaim := { program := "ytchjjoepikcmfaagreat", sum := "42a1dd2a8245477d1a83bc3ddb48682d62c40397ed7927814dfa3d19df52527d", func := "boscage/boscagelaw13.DegreeAll", spec := "degreeAll", inPlace := ["slices.overlaps[boscage/ref.Ref]", "slices.overlaps[int64]"], unfollowed := true, recurses := true, apart := false }
def DegreeAllSaid : Prop := degreeAllRow.holds Tryz.pinned (OpenSpec.ofChange degreeAllSpec)

/-- ITS FALSE NEIGHBOUR: 'it returns false'. Refute it at one input. -/
def degreeAllWrong : ChangeSpec := { name := "degreeAll", fn := fun _ => fun
  | [d1, d2, d3] => { results := [.lit (.bool false)], args := [d1, d2, d3] }
  | _ => none }
def DegreeAllWrongFalsely : Prop := degreeAllRow.holds Tryz.pinned (OpenSpec.ofChange degreeAllWrong)

/-- 'boscagelaw14.MendAll': WHATEVER THE INPUT: true; the input reads as it did. -/
def mendAllSpec : ChangeSpec := { name := "mendAll", fn := fun _ => fun
  | [d1, d2, d3] => { results := [.lit (.bool true)], args := [d1, d2, d3] }
  | _ => none }
def mendAllRow : OpenClaim := { program := "ytchjjoepikcmfaagreat", sum := "42a1dd2a8245477d1a83bc3ddb48682d62c40397ed7927814dfa3d19df52527d", func := "boscage/boscagelaw14.MendAll", spec := "mendAll", inPlace := ["slices.overlaps[boscage/ref.Ref]", "slices.overlaps[int64]"], unfollowed := true, recurses := true, apart := false }
def MendAllSaid : Prop := mendAllRow.holds Tryz.pinned (OpenSpec.ofChange mendAllSpec)

/-- ITS FALSE NEIGHBOUR: 'it returns false'. Refute it at one input. -/
def mendAllWrong : ChangeSpec := { name := "mendAll", fn := fun _ => fun
  | [d1, d2, d3] => { results := [.lit (.bool false)], args := [d1, d2, d3] }
  | _ => none }
def MendAllWrongFalsely : Prop := mendAllRow.holds Tryz.pinned (OpenSpec.ofChange mendAllWrong)

/-- 'boscagelaw14.MendRight': WHATEVER THE INPUT: true; the input reads as it did. -/
def mendRightSpec : ChangeSpec := { name := "mendRight", fn := fun _ => fun
  | [d1, d2, d3] => { results := [.lit (.bool true)], args := [d1, d2, d3] }
  | _ => none }
def mendRightRow : OpenClaim := { program := "ytchjjoepikcmfaagreat", sum := "42a1dd2a8245477d1a83bc3ddb48682d62c40397ed7927814dfa3d19df52527d", func := "boscage/boscagelaw14.MendRight", spec := "mendRight", inPlace := ["slices.overlaps[boscage/ref.Ref]", "slices.overlaps[int64]"], unfollowed := true, recurses := true, apart := false }
def MendRightSaid : Prop := mendRightRow.holds Tryz.pinned (OpenSpec.ofChange mendRightSpec)

/-- ITS FALSE NEIGHBOUR: 'it returns false'. Refute it at one input. -/
def mendRightWrong : ChangeSpec := { name := "mendRight", fn := fun _ => fun
  | [d1, d2, d3] => { results := [.lit (.bool false)], args := [d1, d2, d3] }
  | _ => none }
def MendRightWrongFalsely : Prop := mendRightRow.holds Tryz.pinned (OpenSpec.ofChange mendRightWrong)

/-- 'boscagelaw14.MendShort': WHATEVER THE INPUT: true; the input reads as it did. -/
def mendShortSpec : ChangeSpec := { name := "mendShort", fn := fun _ => fun
  | [d1, d2, d3, d4, d5, d6] => { results := [.lit (.bool true)], args := [d1, d2, d3, d4, d5, d6] }
  | _ => none }
def mendShortRow : OpenClaim := { program := "ytchjjoepikcmfaagreat", sum := "42a1dd2a8245477d1a83bc3ddb48682d62c40397ed7927814dfa3d19df52527d", func := "boscage/boscagelaw14.MendShort", spec := "mendShort", inPlace := ["slices.overlaps[boscage/ref.Ref]", "slices.overlaps[int64]"], unfollowed := true, recurses := true, apart := false }
def MendShortSaid : Prop := mendShortRow.holds Tryz.pinned (OpenSpec.ofChange mendShortSpec)

/-- ITS FALSE NEIGHBOUR: 'it returns false'. Refute it at one input. -/
def mendShortWrong : ChangeSpec := { name := "mendShort", fn := fun _ => fun
  | [d1, d2, d3, d4, d5, d6] => { results := [.lit (.bool false)], args := [d1, d2, d3, d4, d5, d6] }
  | _ => none }
def MendShortWrongFalsely : Prop := mendShortRow.holds Tryz.pinned (OpenSpec.ofChange mendShortWrong)

/-- 'boscagelaw14.MendMixed': WHATEVER THE INPUT: true; the input reads as it did. -/
def mendMixedSpec : ChangeSpec := { name := "mendMixed", fn := fun _ => fun
  | [d1, d2, d3, d4, d5] => { results := [.lit (.bool true)], args := [d1, d2, d3, d4, d5] }
  | _ => none }
def mendMixedRow : OpenClaim := { program := "ytchjjoepikcmfaagreat", sum := "42a1dd2a8245477d1a83bc3ddb48682d62c40397ed7927814dfa3d19df52527d", func := "boscage/boscagelaw14.MendMixed", spec := "mendMixed", inPlace := ["slices.overlaps[boscage/ref.Ref]", "slices.overlaps[int64]"], unfollowed := true, recurses := true, apart := false }
def MendMixedSaid : Prop := mendMixedRow.holds Tryz.pinned (OpenSpec.ofChange mendMixedSpec)

/-- ITS FALSE NEIGHBOUR: 'it returns false'. Refute it at one input. -/
def mendMixedWrong : ChangeSpec := { name := "mendMixed", fn := fun _ => fun
  | [d1, d2, d3, d4, d5] => { results := [.lit (.bool false)], args := [d1, d2, d3, d4, d5] }
  | _ => none }
def MendMixedWrongFalsely : Prop := mendMixedRow.holds Tryz.pinned (OpenSpec.ofChange mendMixedWrong)

/- THE SECOND FORM. 'bulk': how many values and letters a reading holds, each counted each time it is reached (what is shared counts as often as it is met; a slice's spare places count too). A statement '..UptoSaid' is the law's where the arguments, and the package variables that the reading takes, are together of bulk at most 1048576: NARROWER than '..Said'. Prove '..Said' where nothing that the law and all that it calls make is longer than what came in: it says more and counts as full. Else prove '..UptoSaid'. A law counts once. -/
mutual
def uptoBulk {H : Type} : DataW H → Nat
  | .lit (.string bytes) => bytes.length + 1
  | .lit _ => 1
  | .nil => 1
  | .ptr d => uptoBulk d + 1
  | .slice elems spare => uptoBulkAll elems + uptoBulkAll spare + 1
  | .agg parts => uptoBulkAll parts + 1
  | .iface _ d => uptoBulk d + 1
  | .map entries => uptoBulkEntries entries + 1
  | .held _ => 1
def uptoBulkAll {H : Type} : List (DataW H) → Nat
  | [] => 0
  | d :: r => uptoBulk d + uptoBulkAll r
def uptoBulkEntries {H : Type} : List (Lit × DataW H) → Nat
  | [] => 0
  | x :: r => uptoBulkEntry x + uptoBulkEntries r
def uptoBulkEntry {H : Type} : Lit × DataW H → Nat
  | (.string bytes, d) => bytes.length + uptoBulk d + 1
  | (_, d) => uptoBulk d + 1
 end
def uptoSmall : (H : Type) → List (DataW H) → Bool := fun _ ds => decide (uptoBulkAll ds ≤ 1048576)
def OpenSpec.upto (s : _root_.Go.ChangeSpec) : _root_.Go.OpenSpec := { _root_.Go.OpenSpec.ofChange s with cond := some uptoSmall }

/-- 'boscagelaw14.MendLooks', WHERE WHAT IT READS IS OF BULK AT MOST 1048576: true; the input reads as it did. -/
def mendLooksUptoRow : OpenClaim := { program := "ytchjjoepikcmfaagreat", sum := "42a1dd2a8245477d1a83bc3ddb48682d62c40397ed7927814dfa3d19df52527d", func := "boscage/boscagelaw14.MendLooks", spec := "mendLooks", inPlace := ["slices.overlaps[boscage/ref.Ref]", "slices.overlaps[int64]"], unfollowed := true, recurses := true, apart := false, narrowed := true }
def MendLooksUptoSaid : Prop := mendLooksUptoRow.holds Tryz.pinned (OpenSpec.upto mendLooksSpec)

/-- 'boscagelaw12.TagAll', WHERE WHAT IT READS IS OF BULK AT MOST 1048576: true; the input reads as it did. -/
def tagAllUptoRow : OpenClaim := { program := "ytchjjoepikcmfaagreat", sum := "42a1dd2a8245477d1a83bc3ddb48682d62c40397ed7927814dfa3d19df52527d", func := "boscage/boscagelaw12.TagAll", spec := "tagAll", inPlace := ["slices.overlaps[boscage/ref.Ref]", "slices.overlaps[int64]"], unfollowed := true, recurses := true, apart := false, narrowed := true }
def TagAllUptoSaid : Prop := tagAllUptoRow.holds Tryz.pinned (OpenSpec.upto tagAllSpec)

/-- 'boscagelaw12.TagFixes', WHERE WHAT IT READS IS OF BULK AT MOST 1048576: true; the input reads as it did. -/
def tagFixesUptoRow : OpenClaim := { program := "ytchjjoepikcmfaagreat", sum := "42a1dd2a8245477d1a83bc3ddb48682d62c40397ed7927814dfa3d19df52527d", func := "boscage/boscagelaw12.TagFixes", spec := "tagFixes", inPlace := ["slices.overlaps[boscage/ref.Ref]", "slices.overlaps[int64]"], unfollowed := true, recurses := true, apart := false, narrowed := true }
def TagFixesUptoSaid : Prop := tagFixesUptoRow.holds Tryz.pinned (OpenSpec.upto tagFixesSpec)

/-- 'boscagelaw12.TagShort', WHERE WHAT IT READS IS OF BULK AT MOST 1048576: true; the input reads as it did. -/
def tagShortUptoRow : OpenClaim := { program := "ytchjjoepikcmfaagreat", sum := "42a1dd2a8245477d1a83bc3ddb48682d62c40397ed7927814dfa3d19df52527d", func := "boscage/boscagelaw12.TagShort", spec := "tagShort", inPlace := ["slices.overlaps[boscage/ref.Ref]", "slices.overlaps[int64]"], unfollowed := true, recurses := true, apart := false, narrowed := true }
def TagShortUptoSaid : Prop := tagShortUptoRow.holds Tryz.pinned (OpenSpec.upto tagShortSpec)

/-- 'boscagelaw13.DegreeAll', WHERE WHAT IT READS IS OF BULK AT MOST 1048576: true; the input reads as it did. -/
def degreeAllUptoRow : OpenClaim := { program := "ytchjjoepikcmfaagreat", sum := "42a1dd2a8245477d1a83bc3ddb48682d62c40397ed7927814dfa3d19df52527d", func := "boscage/boscagelaw13.DegreeAll", spec := "degreeAll", inPlace := ["slices.overlaps[boscage/ref.Ref]", "slices.overlaps[int64]"], unfollowed := true, recurses := true, apart := false, narrowed := true }
def DegreeAllUptoSaid : Prop := degreeAllUptoRow.holds Tryz.pinned (OpenSpec.upto degreeAllSpec)

/-- 'boscagelaw14.MendAll', WHERE WHAT IT READS IS OF BULK AT MOST 1048576: true; the input reads as it did. -/
def mendAllUptoRow : OpenClaim := { program := "ytchjjoepikcmfaagreat", sum := "42a1dd2a8245477d1a83bc3ddb48682d62c40397ed7927814dfa3d19df52527d", func := "boscage/boscagelaw14.MendAll", spec := "mendAll", inPlace := ["slices.overlaps[boscage/ref.Ref]", "slices.overlaps[int64]"], unfollowed := true, recurses := true, apart := false, narrowed := true }
def MendAllUptoSaid : Prop := mendAllUptoRow.holds Tryz.pinned (OpenSpec.upto mendAllSpec)

/-- 'boscagelaw14.MendRight', WHERE WHAT IT READS IS OF BULK AT MOST 1048576: true; the input reads as it did. -/
def mendRightUptoRow : OpenClaim := { program := "ytchjjoepikcmfaagreat", sum := "42a1dd2a8245477d1a83bc3ddb48682d62c40397ed7927814dfa3d19df52527d", func := "boscage/boscagelaw14.MendRight", spec := "mendRight", inPlace := ["slices.overlaps[boscage/ref.Ref]", "slices.overlaps[int64]"], unfollowed := true, recurses := true, apart := false, narrowed := true }
def MendRightUptoSaid : Prop := mendRightUptoRow.holds Tryz.pinned (OpenSpec.upto mendRightSpec)

/-- 'boscagelaw14.MendShort', WHERE WHAT IT READS IS OF BULK AT MOST 1048576: true; the input reads as it did. -/
def mendShortUptoRow : OpenClaim := { program := "ytchjjoepikcmfaagreat", sum := "42a1dd2a8245477d1a83bc3ddb48682d62c40397ed7927814dfa3d19df52527d", func := "boscage/boscagelaw14.MendShort", spec := "mendShort", inPlace := ["slices.overlaps[boscage/ref.Ref]", "slices.overlaps[int64]"], unfollowed := true, recurses := true, apart := false, narrowed := true }
def MendShortUptoSaid : Prop := mendShortUptoRow.holds Tryz.pinned (OpenSpec.upto mendShortSpec)

/-- 'boscagelaw14.MendMixed', WHERE WHAT IT READS IS OF BULK AT MOST 1048576: true; the input reads as it did. -/
def mendMixedUptoRow : OpenClaim := { program := "ytchjjoepikcmfaagreat", sum := "42a1dd2a8245477d1a83bc3ddb48682d62c40397ed7927814dfa3d19df52527d", func := "boscage/boscagelaw14.MendMixed", spec := "mendMixed", inPlace := ["slices.overlaps[boscage/ref.Ref]", "slices.overlaps[int64]"], unfollowed := true, recurses := true, apart := false, narrowed := true }
def MendMixedUptoSaid : Prop := mendMixedUptoRow.holds Tryz.pinned (OpenSpec.upto mendMixedSpec)

end Rows
end Go.Proofs.YtchjjoepikcmfaaGreat
