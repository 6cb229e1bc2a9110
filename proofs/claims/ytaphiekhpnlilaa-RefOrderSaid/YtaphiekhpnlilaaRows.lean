/-
  No cell of these rows narrows 'for every input' (looked for: loops, veiled, ifaces, maps, wideKeys, modest, calm, conditions, laid).
  DERIVED. THE GIVEN ROWS OF THIS SEAT. 6 by the template 'for every input the law returns true; each argument reads behind the call as it read before'; 0 by the template 'total and deterministic' (their statements: YtaphiekhpnlilaaTotals.lean).
  GIVEN WITH THE SEED: the statements are not yours to turn. If you find one false, say at which input.
  Laid BY PROGRAM, IN A SANDBOX (cutbox-rows.mjs): the forced cells as the released guide's own fill.sh prints them over the translation 2834d9fdddf5d5cd… (all of the seat's roots in one cut). By AI agents, Wed Nov 11 2026. No macro, syntax, notation, axiom, sorry.
-/
import Derived.Test.YtaphiekhpnlilaaChecked
import GoSem.Claim
import GoSem.ClaimJoined
import GoSem.ClaimMapViews
import Derived.JoinedTies
import Derived.KernelRfl
namespace Go.Proofs.Ytaphiekhpnlilaa
/- THE CELL 'sum', in the pinned program and in every row, IS THE sha256 OF THE DUMP (.gsa) THAT YtaphiekhpnlilaaProg.lean LOADS. Nothing in Lean hashes anything: it is a label: what it is worth is what the hold of that sum in a sandbox is worth. -/
noncomputable def Try.pinned : Pinned := { name := "ytaphiekhpnlilaa", sum := "2834d9fdddf5d5cde5f63df80f921f28da0244f05f55d96374034068d82c61aa", checked := Try.checked }
namespace Rows
def none {H : Type} : Left H := { results := [], args := [] }

/-- 'boscagelaw01.RefMakes': WHATEVER THE INPUT: true; the input reads as it did. -/
def refMakesSpec : ChangeSpec := { name := "refMakes", fn := fun _ => fun
  | [d1, d2] => { results := [.lit (.bool true)], args := [d1, d2] }
  | _ => none }
def refMakesRow : OpenClaim := { program := "ytaphiekhpnlilaa", sum := "2834d9fdddf5d5cde5f63df80f921f28da0244f05f55d96374034068d82c61aa", func := "boscage/boscagelaw01.RefMakes", spec := "refMakes", apart := false }
def RefMakesSaid : Prop := refMakesRow.holds Try.pinned (OpenSpec.ofChange refMakesSpec)

/-- ITS FALSE NEIGHBOUR: 'it returns false'. Refute it at one input. -/
def refMakesWrong : ChangeSpec := { name := "refMakes", fn := fun _ => fun
  | [d1, d2] => { results := [.lit (.bool false)], args := [d1, d2] }
  | _ => none }
def RefMakesWrongFalsely : Prop := refMakesRow.holds Try.pinned (OpenSpec.ofChange refMakesWrong)

/-- 'boscagelaw01.RefApart': WHATEVER THE INPUT: true; the input reads as it did. -/
def refApartSpec : ChangeSpec := { name := "refApart", fn := fun _ => fun
  | [d1, d2, d3, d4] => { results := [.lit (.bool true)], args := [d1, d2, d3, d4] }
  | _ => none }
def refApartRow : OpenClaim := { program := "ytaphiekhpnlilaa", sum := "2834d9fdddf5d5cde5f63df80f921f28da0244f05f55d96374034068d82c61aa", func := "boscage/boscagelaw01.RefApart", spec := "refApart", apart := false }
def RefApartSaid : Prop := refApartRow.holds Try.pinned (OpenSpec.ofChange refApartSpec)

/-- ITS FALSE NEIGHBOUR: 'it returns false'. Refute it at one input. -/
def refApartWrong : ChangeSpec := { name := "refApart", fn := fun _ => fun
  | [d1, d2, d3, d4] => { results := [.lit (.bool false)], args := [d1, d2, d3, d4] }
  | _ => none }
def RefApartWrongFalsely : Prop := refApartRow.holds Try.pinned (OpenSpec.ofChange refApartWrong)

/-- 'boscagelaw01.RefOrder': WHATEVER THE INPUT: true; the input reads as it did. -/
def refOrderSpec : ChangeSpec := { name := "refOrder", fn := fun _ => fun
  | [d1, d2, d3, d4] => { results := [.lit (.bool true)], args := [d1, d2, d3, d4] }
  | _ => none }
def refOrderRow : OpenClaim := { program := "ytaphiekhpnlilaa", sum := "2834d9fdddf5d5cde5f63df80f921f28da0244f05f55d96374034068d82c61aa", func := "boscage/boscagelaw01.RefOrder", spec := "refOrder", apart := false }
def RefOrderSaid : Prop := refOrderRow.holds Try.pinned (OpenSpec.ofChange refOrderSpec)

/-- ITS FALSE NEIGHBOUR: 'it returns false'. Refute it at one input. -/
def refOrderWrong : ChangeSpec := { name := "refOrder", fn := fun _ => fun
  | [d1, d2, d3, d4] => { results := [.lit (.bool false)], args := [d1, d2, d3, d4] }
  | _ => none }
def RefOrderWrongFalsely : Prop := refOrderRow.holds Try.pinned (OpenSpec.ofChange refOrderWrong)

/-- 'boscagelaw01.RefParts': WHATEVER THE INPUT: true; the input reads as it did. -/
def refPartsSpec : ChangeSpec := { name := "refParts", fn := fun _ => fun
  | [d] => { results := [.lit (.bool true)], args := [d] }
  | _ => none }
def refPartsRow : OpenClaim := { program := "ytaphiekhpnlilaa", sum := "2834d9fdddf5d5cde5f63df80f921f28da0244f05f55d96374034068d82c61aa", func := "boscage/boscagelaw01.RefParts", spec := "refParts", apart := false }
def RefPartsSaid : Prop := refPartsRow.holds Try.pinned (OpenSpec.ofChange refPartsSpec)

/-- ITS FALSE NEIGHBOUR: 'it returns false'. Refute it at one input. -/
def refPartsWrong : ChangeSpec := { name := "refParts", fn := fun _ => fun
  | [d] => { results := [.lit (.bool false)], args := [d] }
  | _ => none }
def RefPartsWrongFalsely : Prop := refPartsRow.holds Try.pinned (OpenSpec.ofChange refPartsWrong)

/-- 'boscagelaw01.RefBack': WHATEVER THE INPUT: true; the input reads as it did. -/
def refBackSpec : ChangeSpec := { name := "refBack", fn := fun _ => fun
  | [d1, d2] => { results := [.lit (.bool true)], args := [d1, d2] }
  | _ => none }
def refBackRow : OpenClaim := { program := "ytaphiekhpnlilaa", sum := "2834d9fdddf5d5cde5f63df80f921f28da0244f05f55d96374034068d82c61aa", func := "boscage/boscagelaw01.RefBack", spec := "refBack", apart := false }
def RefBackSaid : Prop := refBackRow.holds Try.pinned (OpenSpec.ofChange refBackSpec)

/-- ITS FALSE NEIGHBOUR: 'it returns false'. Refute it at one input. -/
def refBackWrong : ChangeSpec := { name := "refBack", fn := fun _ => fun
  | [d1, d2] => { results := [.lit (.bool false)], args := [d1, d2] }
  | _ => none }
def RefBackWrongFalsely : Prop := refBackRow.holds Try.pinned (OpenSpec.ofChange refBackWrong)

/-- 'boscagelaw01.RefNone': WHATEVER THE INPUT: true; the input reads as it did. -/
def refNoneSpec : ChangeSpec := { name := "refNone", fn := fun _ => fun
  | [d] => { results := [.lit (.bool true)], args := [d] }
  | _ => none }
def refNoneRow : OpenClaim := { program := "ytaphiekhpnlilaa", sum := "2834d9fdddf5d5cde5f63df80f921f28da0244f05f55d96374034068d82c61aa", func := "boscage/boscagelaw01.RefNone", spec := "refNone", apart := false }
def RefNoneSaid : Prop := refNoneRow.holds Try.pinned (OpenSpec.ofChange refNoneSpec)

/-- ITS FALSE NEIGHBOUR: 'it returns false'. Refute it at one input. -/
def refNoneWrong : ChangeSpec := { name := "refNone", fn := fun _ => fun
  | [d] => { results := [.lit (.bool false)], args := [d] }
  | _ => none }
def RefNoneWrongFalsely : Prop := refNoneRow.holds Try.pinned (OpenSpec.ofChange refNoneWrong)

/- THE SECOND FORM. 'bulk': how many values and letters a reading holds, each counted each time it is reached (what is shared counts as often as it is met; a slice's spare places count too). A statement '..UptoSaid' is the law's where the arguments, and the package variables that the reading takes, are together of bulk at most 1048576: NARROWER than '..Said'. Prove '..Said' where nothing that the law and all that it calls make is longer than what came in: it says more and counts as full. Else prove '..UptoSaid'. A law counts once. -/
mutual
def uptoBulk {H : Type} : DataW H → Nat
  | .lit (.string bytes) => bytes.length + 1
  | .lit _ => 1
  | .nil => 1
  | .ptr d => uptoBulk d + 1
  | .slice elems spare => uptoBulkAll elems + uptoBulkAll spare + 1
  | .agg parts => uptoBulkAll parts + 1
  | .iface _ d => uptoBulk d + 1
  | .map entries => uptoBulkEntries entries + 1
  | .held _ => 1
def uptoBulkAll {H : Type} : List (DataW H) → Nat
  | [] => 0
  | d :: r => uptoBulk d + uptoBulkAll r
def uptoBulkEntries {H : Type} : List (Lit × DataW H) → Nat
  | [] => 0
  | x :: r => uptoBulkEntry x + uptoBulkEntries r
def uptoBulkEntry {H : Type} : Lit × DataW H → Nat
  | (.string bytes, d) => bytes.length + uptoBulk d + 1
  | (_, d) => uptoBulk d + 1
 end
def uptoSmall : (H : Type) → List (DataW H) → Bool := fun _ ds => decide (uptoBulkAll ds ≤ 1048576)
def OpenSpec.upto (s : _root_.Go.ChangeSpec) : _root_.Go.OpenSpec := { _root_.Go.OpenSpec.ofChange s with cond := some uptoSmall }

/-- 'boscagelaw01.RefMakes', WHERE WHAT IT READS IS OF BULK AT MOST 1048576: true; the input reads as it did. -/
def refMakesUptoRow : OpenClaim := { program := "ytaphiekhpnlilaa", sum := "2834d9fdddf5d5cde5f63df80f921f28da0244f05f55d96374034068d82c61aa", func := "boscage/boscagelaw01.RefMakes", spec := "refMakes", apart := false, narrowed := true }
def RefMakesUptoSaid : Prop := refMakesUptoRow.holds Try.pinned (OpenSpec.upto refMakesSpec)

/-- 'boscagelaw01.RefApart', WHERE WHAT IT READS IS OF BULK AT MOST 1048576: true; the input reads as it did. -/
def refApartUptoRow : OpenClaim := { program := "ytaphiekhpnlilaa", sum := "2834d9fdddf5d5cde5f63df80f921f28da0244f05f55d96374034068d82c61aa", func := "boscage/boscagelaw01.RefApart", spec := "refApart", apart := false, narrowed := true }
def RefApartUptoSaid : Prop := refApartUptoRow.holds Try.pinned (OpenSpec.upto refApartSpec)

/-- 'boscagelaw01.RefOrder', WHERE WHAT IT READS IS OF BULK AT MOST 1048576: true; the input reads as it did. -/
def refOrderUptoRow : OpenClaim := { program := "ytaphiekhpnlilaa", sum := "2834d9fdddf5d5cde5f63df80f921f28da0244f05f55d96374034068d82c61aa", func := "boscage/boscagelaw01.RefOrder", spec := "refOrder", apart := false, narrowed := true }
def RefOrderUptoSaid : Prop := refOrderUptoRow.holds Try.pinned (OpenSpec.upto refOrderSpec)

/-- 'boscagelaw01.RefParts', WHERE WHAT IT READS IS OF BULK AT MOST 1048576: true; the input reads as it did. -/
def refPartsUptoRow : OpenClaim := { program := "ytaphiekhpnlilaa", sum := "2834d9fdddf5d5cde5f63df80f921f28da0244f05f55d96374034068d82c61aa", func := "boscage/boscagelaw01.RefParts", spec := "refParts", apart := false, narrowed := true }
def RefPartsUptoSaid : Prop := refPartsUptoRow.holds Try.pinned (OpenSpec.upto refPartsSpec)

/-- 'boscagelaw01.RefBack', WHERE WHAT IT READS IS OF BULK AT MOST 1048576: true; the input reads as it did. -/
def refBackUptoRow : OpenClaim := { program := "ytaphiekhpnlilaa", sum := "2834d9fdddf5d5cde5f63df80f921f28da0244f05f55d96374034068d82c61aa", func := "boscage/boscagelaw01.RefBack", spec := "refBack", apart := false, narrowed := true }
def RefBackUptoSaid : Prop := refBackUptoRow.holds Try.pinned (OpenSpec.upto refBackSpec)

/-- 'boscagelaw01.RefNone', WHERE WHAT IT READS IS OF BULK AT MOST 1048576: true; the input reads as it did. -/
def refNoneUptoRow : OpenClaim := { program := "ytaphiekhpnlilaa", sum := "2834d9fdddf5d5cde5f63df80f921f28da0244f05f55d96374034068d82c61aa", func := "boscage/boscagelaw01.RefNone", spec := "refNone", apart := false, narrowed := true }
def RefNoneUptoSaid : Prop := refNoneUptoRow.holds Try.pinned (OpenSpec.upto refNoneSpec)

end Rows
end Go.Proofs.Ytaphiekhpnlilaa
