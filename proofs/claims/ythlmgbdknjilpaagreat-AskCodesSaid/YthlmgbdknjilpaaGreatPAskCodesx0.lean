-- PRINTED BY print.sh 35421559b90ae4d0a3588c463048766b98c2df88dd9212a6774a882060cdf62d: not written by this session
import Derived.Test.YthlmgbdknjilpaaGreatProg
import Derived.Below
import Derived.Deep.Draws
import Derived.Deep.AppendLies
import Derived.Maps.AppendAt
import Derived.OwnWalk
import Derived.Laws.BytesArg
import Derived.Laws.MakeOwn
import Derived.Laws.OwnMore
import Derived.Deep.OwnRows
import Derived.Tactics
import Derived.Lib.ConvBytes
import Derived.Laws.Slices
import Derived.WalkKit
import Derived.KernelRfl
import Derived.RowKit3
import Derived.Deep.LoopGhost
import Derived.Deep.QuietTactic
import Derived.BigQuiet
import Derived.WideLaws
import Derived.Deep.DeepCutAuto
import Derived.Deep.CutBlock
import Derived.Deep.RegionHeld3
import Derived.Laws.Rows
import Derived.Lib.AppendStr
import Derived.ArgAppend
import Derived.Laws.IdiomCopy
import Derived.OrdersHeld
import Derived.Laws.BitsLemmas
import Derived.RowKit
import Derived.Test.YthlmgbdknjilpaaGreatWWords
import Derived.Test.YthlmgbdknjilpaaGreatWLast
import Derived.Test.YthlmgbdknjilpaaGreatWTab
import Derived.Test.YthlmgbdknjilpaaGreatWFour
import Derived.Test.YthlmgbdknjilpaaGreatWQPut
import Derived.Test.YthlmgbdknjilpaaGreatWApart
import Derived.Test.YthlmgbdknjilpaaGreatWArr
import Derived.Test.YthlmgbdknjilpaaGreatWZeros
import Derived.Test.YthlmgbdknjilpaaGreatWFoot
import Derived.Test.YthlmgbdknjilpaaGreatWKept
import Derived.Test.YthlmgbdknjilpaaGreatWShare
import Derived.Test.YthlmgbdknjilpaaGreatWN
import Derived.Test.YthlmgbdknjilpaaGreatWFootNe
import Derived.Test.YthlmgbdknjilpaaGreatWAt
import Derived.Test.YthlmgbdknjilpaaGreatWEqStruct
import Derived.Test.YthlmgbdknjilpaaGreatWRepsOne
import Derived.Test.YthlmgbdknjilpaaGreatWInv
import Derived.Test.YthlmgbdknjilpaaGreatWInvWords
import Derived.Test.YthlmgbdknjilpaaGreatWGuard
import Derived.Test.YthlmgbdknjilpaaGreatWNEv
import Derived.Test.YthlmgbdknjilpaaGreatWMore
namespace Go.Proofs.YthlmgbdknjilpaaGreat.PAskCodes
open Go.RowKit Go.Proofs.YthlmgbdknjilpaaGreatW.PrintWords Go.Proofs.YthlmgbdknjilpaaGreatW.PrintLast Go.Proofs.YthlmgbdknjilpaaGreatW.PrintMore
attribute [local go_sem] max2_int min2_int max_two min_two max_three min_three max_four min_four   -- for this text's walks alone
set_option linter.unusedVariables false
set_option linter.unusedSimpArgs false



def errW : Option Int → Value
  | none => .nilIface
  | some c => .iface 0 (.int .i64 c)
theorem errW_none : errW none = .nilIface := rfl
theorem errW_some (c : Int) : errW (some c) = .iface 0 (.int .i64 c) := rfl

theorem info2 : (Tryz.prog.info? 2).map (fun i => (i.zero, i.size, i.bytes)) = some (some (.int .i64 0), 1, 8) := by kernel_rfl
theorem info31 : (Tryz.prog.info? 31).map (fun i => (i.zero, i.size, i.bytes)) = some (some (.agg #[(.int .i64 0), (.int .i64 0)]), 2, 16) := by kernel_rfl
theorem info109 : (Tryz.prog.info? 109).map (fun i => (i.zero, i.size, i.bytes)) = some (some (.slice none 0 0), 1, 24) := by kernel_rfl
-- the values' own types
/-! #### struct type 31 -/
structure S31 where
  f0 : Int
  f1 : Int
def z31 : S31 := ⟨(0 : Int), (0 : Int)⟩
def k31 : Kd S31 := Kd.iso (Kd.pair (Kd.int .i64) (Kd.int .i64)) (fun x : S31 => (x.f0, x.f1))
theorem k31_open {w : World} {x : S31} {cs : List Value} (h : k31.K w x cs) : cs = [.int .i64 x.f0, .int .i64 x.f1] := by
  obtain ⟨_, _, rfl, rfl, rfl⟩ := h
  exact rfl
theorem k31_openM {w : World} {base : Nat} {ok : Nat → Prop} {x : S31} {cs : List Value} (h : k31.M w base ok x cs) : cs = [.int .i64 x.f0, .int .i64 x.f1] := by
  obtain ⟨_, _, rfl, rfl, rfl⟩ := h
  exact rfl
theorem k31_mk (w : World) (x : S31)  : k31.K w x [.int .i64 x.f0, .int .i64 x.f1] := ⟨[.int .i64 x.f0], [.int .i64 x.f1], rfl, rfl, rfl⟩
theorem k31_mkM (w : World) (base : Nat) (ok : Nat → Prop) (x : S31)  : k31.M w base ok x [.int .i64 x.f0, .int .i64 x.f1] := ⟨[.int .i64 x.f0], [.int .i64 x.f1], rfl, rfl, rfl⟩
def rd_T31 (xs : List S31) (i : Int) : S31 := xs.getD i.toNat z31
theorem at_T31 {w : World} {A : Option Addr} {n : Nat} {xs : List S31} (h : Kd.C k31 w A n xs) (i : Int) (h0 : 0 ≤ i) (h1 : i < n) : ∃ ad , A = some ad ∧ w.cell? (ad.add (i.toNat * 2)) = some (.int .i64 (rd_T31 xs i).f0) ∧ w.cell? ⟨(ad.add (i.toNat * 2)).block, (ad.add (i.toNat * 2)).off + 1, none⟩ = some (.int .i64 (rd_T31 xs i).f1) := by
  obtain ⟨ad, c, e, _, hK, hc0⟩ := Kd.C_get h z31 i h0 h1
  have hc : ∀ j u, c[j]? = some u → w.cell? (ad.add (i.toNat * 2 + j)) = some u := hc0
  obtain rfl := k31_open hK
  exact ⟨ad, e, hc 0 _ rfl, by rw [← add_field _ _ 1 (by omega)]; exact hc 1 _ rfl⟩

def rd_L3 (xs : List (List S31)) (i : Int) : (List S31) := xs.getD i.toNat ([] : List S31)
theorem at_L3 {w : World} {A : Option Addr} {n : Nat} {xs : List (List S31)} (h : Kd.C (Kd.slice 31 k31) w A n xs) (i : Int) (h0 : 0 ≤ i) (h1 : i < n) : ∃ ad A0 c0, A = some ad ∧ w.cell? (ad.add i.toNat) = some (.slice A0 (rd_L3 xs i).length c0) ∧ (rd_L3 xs i).length ≤ c0 ∧ k31.C w A0 (rd_L3 xs i).length (rd_L3 xs i) := by
  obtain ⟨ad, c, e, _, hK, hc0⟩ := Kd.C_get h ([] : List S31) i h0 h1
  have hc : ∀ j u, c[j]? = some u → w.cell? (ad.add (i.toNat * 1 + j)) = some u := hc0
  obtain ⟨A0, c0, rfl, l0, g0⟩ := hK
  exact ⟨ad, A0, c0, e, by have hq := hc 0 _ rfl; rwa [Nat.mul_one, Nat.add_zero] at hq, l0, g0⟩

def rd_L4 (xs : List (List Int)) (i : Int) : (List Int) := xs.getD i.toNat ([] : List Int)
theorem at_L4 {w : World} {A : Option Addr} {n : Nat} {xs : List (List Int)} (h : Kd.C (Kd.slice 2 (Kd.int .i64)) w A n xs) (i : Int) (h0 : 0 ≤ i) (h1 : i < n) : ∃ ad A0 c0, A = some ad ∧ w.cell? (ad.add i.toNat) = some (.slice A0 (rd_L4 xs i).length c0) ∧ (rd_L4 xs i).length ≤ c0 ∧ (Kd.int .i64).C w A0 (rd_L4 xs i).length (rd_L4 xs i) := by
  obtain ⟨ad, c, e, _, hK, hc0⟩ := Kd.C_get h ([] : List Int) i h0 h1
  have hc : ∀ j u, c[j]? = some u → w.cell? (ad.add (i.toNat * 1 + j)) = some u := hc0
  obtain ⟨A0, c0, rfl, l0, g0⟩ := hK
  exact ⟨ad, A0, c0, e, by have hq := hc 0 _ rfl; rwa [Nat.mul_one, Nat.add_zero] at hq, l0, g0⟩

def rd_L5 (xs : List (List Int)) (i : Int) : (List Int) := xs.getD i.toNat ([] : List Int)
theorem at_L5 {w : World} {A : Option Addr} {n : Nat} {xs : List (List Int)} (h : Kd.C (Kd.slice 55 (Kd.int .i64)) w A n xs) (i : Int) (h0 : 0 ≤ i) (h1 : i < n) : ∃ ad A0 c0, A = some ad ∧ w.cell? (ad.add i.toNat) = some (.slice A0 (rd_L5 xs i).length c0) ∧ (rd_L5 xs i).length ≤ c0 ∧ (Kd.int .i64).C w A0 (rd_L5 xs i).length (rd_L5 xs i) := by
  obtain ⟨ad, c, e, _, hK, hc0⟩ := Kd.C_get h ([] : List Int) i h0 h1
  have hc : ∀ j u, c[j]? = some u → w.cell? (ad.add (i.toNat * 1 + j)) = some u := hc0
  obtain ⟨A0, c0, rfl, l0, g0⟩ := hK
  exact ⟨ad, A0, c0, e, by have hq := hc 0 _ rfl; rwa [Nat.mul_one, Nat.add_zero] at hq, l0, g0⟩

/-! #### struct type 117 -/
structure S117 where
  f0 : (List Int)
  f1 : (List Int)
def z117 : S117 := ⟨([] : List Int), ([] : List Int)⟩
def k117 : Kd S117 := Kd.iso (Kd.pair (Kd.slice 2 (Kd.int .i64)) (Kd.slice 55 (Kd.int .i64))) (fun x : S117 => (x.f0, x.f1))
theorem k117_open {w : World} {x : S117} {cs : List Value} (h : k117.K w x cs) : ∃ A0 c0 A1 c1, cs = [.slice A0 x.f0.length c0, .slice A1 x.f1.length c1] ∧ x.f0.length ≤ c0 ∧ (Kd.int .i64).C w A0 x.f0.length x.f0 ∧ x.f1.length ≤ c1 ∧ (Kd.int .i64).C w A1 x.f1.length x.f1 := by
  obtain ⟨_, _, rfl, ⟨A0, c0, rfl, l0, g0⟩, ⟨A1, c1, rfl, l1, g1⟩⟩ := h
  exact ⟨A0, c0, A1, c1, rfl, l0, g0, l1, g1⟩
theorem k117_openM {w : World} {base : Nat} {ok : Nat → Prop} {x : S117} {cs : List Value} (h : k117.M w base ok x cs) : ∃ v0 v1, cs = [v0, v1] ∧ (Kd.int .i64).R 2 w base ok v0 x.f0 ∧ (Kd.int .i64).R 55 w base ok v1 x.f1 := by
  obtain ⟨_, _, rfl, ⟨v0, rfl, g0⟩, ⟨v1, rfl, g1⟩⟩ := h
  exact ⟨v0, v1, rfl, g0, g1⟩
theorem k117_mk (w : World) (x : S117) {A0 : Option Addr} {c0 : Nat} (l0 : x.f0.length ≤ c0) (g0 : (Kd.int .i64).C w A0 x.f0.length x.f0) {A1 : Option Addr} {c1 : Nat} (l1 : x.f1.length ≤ c1) (g1 : (Kd.int .i64).C w A1 x.f1.length x.f1) : k117.K w x [.slice A0 x.f0.length c0, .slice A1 x.f1.length c1] := ⟨[.slice A0 x.f0.length c0], [.slice A1 x.f1.length c1], rfl, ⟨A0, c0, rfl, l0, g0⟩, ⟨A1, c1, rfl, l1, g1⟩⟩
theorem k117_mkM (w : World) (base : Nat) (ok : Nat → Prop) (x : S117) {v0 : Value} (g0 : (Kd.int .i64).R 2 w base ok v0 x.f0) {v1 : Value} (g1 : (Kd.int .i64).R 55 w base ok v1 x.f1) : k117.M w base ok x [v0, v1] := ⟨[v0], [v1], rfl, ⟨v0, rfl, g0⟩, ⟨v1, rfl, g1⟩⟩
def rd_T117 (xs : List S117) (i : Int) : S117 := xs.getD i.toNat z117
theorem at_T117 {w : World} {A : Option Addr} {n : Nat} {xs : List S117} (h : Kd.C k117 w A n xs) (i : Int) (h0 : 0 ≤ i) (h1 : i < n) : ∃ ad A0 c0 A1 c1, A = some ad ∧ w.cell? (ad.add (i.toNat * 2)) = some (.slice A0 (rd_T117 xs i).f0.length c0) ∧ w.cell? ⟨(ad.add (i.toNat * 2)).block, (ad.add (i.toNat * 2)).off + 1, none⟩ = some (.slice A1 (rd_T117 xs i).f1.length c1) ∧ (rd_T117 xs i).f0.length ≤ c0 ∧ (Kd.int .i64).C w A0 (rd_T117 xs i).f0.length (rd_T117 xs i).f0 ∧ (rd_T117 xs i).f1.length ≤ c1 ∧ (Kd.int .i64).C w A1 (rd_T117 xs i).f1.length (rd_T117 xs i).f1 := by
  obtain ⟨ad, c, e, _, hK, hc0⟩ := Kd.C_get h z117 i h0 h1
  have hc : ∀ j u, c[j]? = some u → w.cell? (ad.add (i.toNat * 2 + j)) = some u := hc0
  obtain ⟨A0, c0, A1, c1, rfl, l0, g0, l1, g1⟩ := k117_open hK
  exact ⟨ad, A0, c0, A1, c1, e, hc 0 _ rfl, by rw [← add_field _ _ 1 (by omega)]; exact hc 1 _ rfl, l0, g0, l1, g1⟩

/-! #### struct type 119 -/
structure S119 where
  f0 : Bool
  f1 : Bool
  f2 : (List S31)
  f3 : S117
def z119 : S119 := ⟨false, false, ([] : List S31), z117⟩
def k119 : Kd S119 := Kd.iso (Kd.pair Kd.bool (Kd.pair Kd.bool (Kd.pair (Kd.slice 31 k31) k117))) (fun x : S119 => (x.f0, x.f1, x.f2, x.f3))
theorem k119_open {w : World} {x : S119} {cs : List Value} (h : k119.K w x cs) : ∃ A2 c2 A3 c3 A4 c4, cs = [.bool x.f0, .bool x.f1, .slice A2 x.f2.length c2, .slice A3 x.f3.f0.length c3, .slice A4 x.f3.f1.length c4] ∧ x.f2.length ≤ c2 ∧ k31.C w A2 x.f2.length x.f2 ∧ x.f3.f0.length ≤ c3 ∧ (Kd.int .i64).C w A3 x.f3.f0.length x.f3.f0 ∧ x.f3.f1.length ≤ c4 ∧ (Kd.int .i64).C w A4 x.f3.f1.length x.f3.f1 := by
  obtain ⟨_, _, rfl, rfl, ⟨_, _, rfl, rfl, ⟨_, _, rfl, ⟨A2, c2, rfl, l2, g2⟩, s3⟩⟩⟩ := h
  obtain ⟨A3, c3, A4, c4, rfl, l3, g3, l4, g4⟩ := k117_open s3
  exact ⟨A2, c2, A3, c3, A4, c4, rfl, l2, g2, l3, g3, l4, g4⟩
theorem k119_openM {w : World} {base : Nat} {ok : Nat → Prop} {x : S119} {cs : List Value} (h : k119.M w base ok x cs) : ∃ v2 v3 v4, cs = [.bool x.f0, .bool x.f1, v2, v3, v4] ∧ k31.R 31 w base ok v2 x.f2 ∧ (Kd.int .i64).R 2 w base ok v3 x.f3.f0 ∧ (Kd.int .i64).R 55 w base ok v4 x.f3.f1 := by
  obtain ⟨_, _, rfl, rfl, ⟨_, _, rfl, rfl, ⟨_, _, rfl, ⟨v2, rfl, g2⟩, s3⟩⟩⟩ := h
  obtain ⟨v3, v4, rfl, g3, g4⟩ := k117_openM s3
  exact ⟨v2, v3, v4, rfl, g2, g3, g4⟩
theorem k119_mk (w : World) (x : S119) {A2 : Option Addr} {c2 : Nat} (l2 : x.f2.length ≤ c2) (g2 : k31.C w A2 x.f2.length x.f2) {A3 : Option Addr} {c3 : Nat} (l3 : x.f3.f0.length ≤ c3) (g3 : (Kd.int .i64).C w A3 x.f3.f0.length x.f3.f0) {A4 : Option Addr} {c4 : Nat} (l4 : x.f3.f1.length ≤ c4) (g4 : (Kd.int .i64).C w A4 x.f3.f1.length x.f3.f1) : k119.K w x [.bool x.f0, .bool x.f1, .slice A2 x.f2.length c2, .slice A3 x.f3.f0.length c3, .slice A4 x.f3.f1.length c4] := ⟨[.bool x.f0], [.bool x.f1, .slice A2 x.f2.length c2, .slice A3 x.f3.f0.length c3, .slice A4 x.f3.f1.length c4], rfl, rfl, ⟨[.bool x.f1], [.slice A2 x.f2.length c2, .slice A3 x.f3.f0.length c3, .slice A4 x.f3.f1.length c4], rfl, rfl, ⟨[.slice A2 x.f2.length c2], [.slice A3 x.f3.f0.length c3, .slice A4 x.f3.f1.length c4], rfl, ⟨A2, c2, rfl, l2, g2⟩, (k117_mk w x.f3 l3 g3 l4 g4)⟩⟩⟩
theorem k119_mkM (w : World) (base : Nat) (ok : Nat → Prop) (x : S119) {v2 : Value} (g2 : k31.R 31 w base ok v2 x.f2) {v3 : Value} (g3 : (Kd.int .i64).R 2 w base ok v3 x.f3.f0) {v4 : Value} (g4 : (Kd.int .i64).R 55 w base ok v4 x.f3.f1) : k119.M w base ok x [.bool x.f0, .bool x.f1, v2, v3, v4] := ⟨[.bool x.f0], [.bool x.f1, v2, v3, v4], rfl, rfl, ⟨[.bool x.f1], [v2, v3, v4], rfl, rfl, ⟨[v2], [v3, v4], rfl, ⟨v2, rfl, g2⟩, (k117_mkM w base ok x.f3 g3 g4)⟩⟩⟩
def rd_T119 (xs : List S119) (i : Int) : S119 := xs.getD i.toNat z119
theorem at_T119 {w : World} {A : Option Addr} {n : Nat} {xs : List S119} (h : Kd.C k119 w A n xs) (i : Int) (h0 : 0 ≤ i) (h1 : i < n) : ∃ ad A2 c2 A3 c3 A4 c4, A = some ad ∧ w.cell? (ad.add (i.toNat * 5)) = some (.bool (rd_T119 xs i).f0) ∧ w.cell? ⟨(ad.add (i.toNat * 5)).block, (ad.add (i.toNat * 5)).off + 1, none⟩ = some (.bool (rd_T119 xs i).f1) ∧ w.cell? ⟨(ad.add (i.toNat * 5)).block, (ad.add (i.toNat * 5)).off + 2, none⟩ = some (.slice A2 (rd_T119 xs i).f2.length c2) ∧ w.cell? ⟨(ad.add (i.toNat * 5)).block, (ad.add (i.toNat * 5)).off + 3, none⟩ = some (.slice A3 (rd_T119 xs i).f3.f0.length c3) ∧ w.cell? ⟨(ad.add (i.toNat * 5)).block, (ad.add (i.toNat * 5)).off + 4, none⟩ = some (.slice A4 (rd_T119 xs i).f3.f1.length c4) ∧ (rd_T119 xs i).f2.length ≤ c2 ∧ k31.C w A2 (rd_T119 xs i).f2.length (rd_T119 xs i).f2 ∧ (rd_T119 xs i).f3.f0.length ≤ c3 ∧ (Kd.int .i64).C w A3 (rd_T119 xs i).f3.f0.length (rd_T119 xs i).f3.f0 ∧ (rd_T119 xs i).f3.f1.length ≤ c4 ∧ (Kd.int .i64).C w A4 (rd_T119 xs i).f3.f1.length (rd_T119 xs i).f3.f1 := by
  obtain ⟨ad, c, e, _, hK, hc0⟩ := Kd.C_get h z119 i h0 h1
  have hc : ∀ j u, c[j]? = some u → w.cell? (ad.add (i.toNat * 5 + j)) = some u := hc0
  obtain ⟨A2, c2, A3, c3, A4, c4, rfl, l2, g2, l3, g3, l4, g4⟩ := k119_open hK
  exact ⟨ad, A2, c2, A3, c3, A4, c4, e, hc 0 _ rfl, by rw [← add_field _ _ 1 (by omega)]; exact hc 1 _ rfl, by rw [← add_field _ _ 2 (by omega)]; exact hc 2 _ rfl, by rw [← add_field _ _ 3 (by omega)]; exact hc 3 _ rfl, by rw [← add_field _ _ 4 (by omega)]; exact hc 4 _ rfl, l2, g2, l3, g3, l4, g4⟩

/-! #### struct type 149 -/
structure S149 where
  f0 : S119
  f1 : (List Int)
  f2 : Int
  f3 : Bool
  f4 : Int
  f5 : Bool
def z149 : S149 := ⟨z119, ([] : List Int), (0 : Int), false, (0 : Int), false⟩
def k149 : Kd S149 := Kd.iso (Kd.pair k119 (Kd.pair (Kd.slice 55 (Kd.int .i64)) (Kd.pair (Kd.int .i64) (Kd.pair Kd.bool (Kd.pair (Kd.int .u32) Kd.bool))))) (fun x : S149 => (x.f0, x.f1, x.f2, x.f3, x.f4, x.f5))
theorem k149_open {w : World} {x : S149} {cs : List Value} (h : k149.K w x cs) : ∃ A2 c2 A3 c3 A4 c4 A5 c5, cs = [.bool x.f0.f0, .bool x.f0.f1, .slice A2 x.f0.f2.length c2, .slice A3 x.f0.f3.f0.length c3, .slice A4 x.f0.f3.f1.length c4, .slice A5 x.f1.length c5, .int .i64 x.f2, .bool x.f3, .int .u32 x.f4, .bool x.f5] ∧ x.f0.f2.length ≤ c2 ∧ k31.C w A2 x.f0.f2.length x.f0.f2 ∧ x.f0.f3.f0.length ≤ c3 ∧ (Kd.int .i64).C w A3 x.f0.f3.f0.length x.f0.f3.f0 ∧ x.f0.f3.f1.length ≤ c4 ∧ (Kd.int .i64).C w A4 x.f0.f3.f1.length x.f0.f3.f1 ∧ x.f1.length ≤ c5 ∧ (Kd.int .i64).C w A5 x.f1.length x.f1 := by
  obtain ⟨_, _, rfl, s0, ⟨_, _, rfl, ⟨A5, c5, rfl, l5, g5⟩, ⟨_, _, rfl, rfl, ⟨_, _, rfl, rfl, ⟨_, _, rfl, rfl, rfl⟩⟩⟩⟩⟩ := h
  obtain ⟨A2, c2, A3, c3, A4, c4, rfl, l2, g2, l3, g3, l4, g4⟩ := k119_open s0
  exact ⟨A2, c2, A3, c3, A4, c4, A5, c5, rfl, l2, g2, l3, g3, l4, g4, l5, g5⟩
theorem k149_openM {w : World} {base : Nat} {ok : Nat → Prop} {x : S149} {cs : List Value} (h : k149.M w base ok x cs) : ∃ v2 v3 v4 v5, cs = [.bool x.f0.f0, .bool x.f0.f1, v2, v3, v4, v5, .int .i64 x.f2, .bool x.f3, .int .u32 x.f4, .bool x.f5] ∧ k31.R 31 w base ok v2 x.f0.f2 ∧ (Kd.int .i64).R 2 w base ok v3 x.f0.f3.f0 ∧ (Kd.int .i64).R 55 w base ok v4 x.f0.f3.f1 ∧ (Kd.int .i64).R 55 w base ok v5 x.f1 := by
  obtain ⟨_, _, rfl, s0, ⟨_, _, rfl, ⟨v5, rfl, g5⟩, ⟨_, _, rfl, rfl, ⟨_, _, rfl, rfl, ⟨_, _, rfl, rfl, rfl⟩⟩⟩⟩⟩ := h
  obtain ⟨v2, v3, v4, rfl, g2, g3, g4⟩ := k119_openM s0
  exact ⟨v2, v3, v4, v5, rfl, g2, g3, g4, g5⟩
theorem k149_mk (w : World) (x : S149) {A2 : Option Addr} {c2 : Nat} (l2 : x.f0.f2.length ≤ c2) (g2 : k31.C w A2 x.f0.f2.length x.f0.f2) {A3 : Option Addr} {c3 : Nat} (l3 : x.f0.f3.f0.length ≤ c3) (g3 : (Kd.int .i64).C w A3 x.f0.f3.f0.length x.f0.f3.f0) {A4 : Option Addr} {c4 : Nat} (l4 : x.f0.f3.f1.length ≤ c4) (g4 : (Kd.int .i64).C w A4 x.f0.f3.f1.length x.f0.f3.f1) {A5 : Option Addr} {c5 : Nat} (l5 : x.f1.length ≤ c5) (g5 : (Kd.int .i64).C w A5 x.f1.length x.f1) : k149.K w x [.bool x.f0.f0, .bool x.f0.f1, .slice A2 x.f0.f2.length c2, .slice A3 x.f0.f3.f0.length c3, .slice A4 x.f0.f3.f1.length c4, .slice A5 x.f1.length c5, .int .i64 x.f2, .bool x.f3, .int .u32 x.f4, .bool x.f5] := ⟨[.bool x.f0.f0, .bool x.f0.f1, .slice A2 x.f0.f2.length c2, .slice A3 x.f0.f3.f0.length c3, .slice A4 x.f0.f3.f1.length c4], [.slice A5 x.f1.length c5, .int .i64 x.f2, .bool x.f3, .int .u32 x.f4, .bool x.f5], rfl, (k119_mk w x.f0 l2 g2 l3 g3 l4 g4), ⟨[.slice A5 x.f1.length c5], [.int .i64 x.f2, .bool x.f3, .int .u32 x.f4, .bool x.f5], rfl, ⟨A5, c5, rfl, l5, g5⟩, ⟨[.int .i64 x.f2], [.bool x.f3, .int .u32 x.f4, .bool x.f5], rfl, rfl, ⟨[.bool x.f3], [.int .u32 x.f4, .bool x.f5], rfl, rfl, ⟨[.int .u32 x.f4], [.bool x.f5], rfl, rfl, rfl⟩⟩⟩⟩⟩
theorem k149_mkM (w : World) (base : Nat) (ok : Nat → Prop) (x : S149) {v2 : Value} (g2 : k31.R 31 w base ok v2 x.f0.f2) {v3 : Value} (g3 : (Kd.int .i64).R 2 w base ok v3 x.f0.f3.f0) {v4 : Value} (g4 : (Kd.int .i64).R 55 w base ok v4 x.f0.f3.f1) {v5 : Value} (g5 : (Kd.int .i64).R 55 w base ok v5 x.f1) : k149.M w base ok x [.bool x.f0.f0, .bool x.f0.f1, v2, v3, v4, v5, .int .i64 x.f2, .bool x.f3, .int .u32 x.f4, .bool x.f5] := ⟨[.bool x.f0.f0, .bool x.f0.f1, v2, v3, v4], [v5, .int .i64 x.f2, .bool x.f3, .int .u32 x.f4, .bool x.f5], rfl, (k119_mkM w base ok x.f0 g2 g3 g4), ⟨[v5], [.int .i64 x.f2, .bool x.f3, .int .u32 x.f4, .bool x.f5], rfl, ⟨v5, rfl, g5⟩, ⟨[.int .i64 x.f2], [.bool x.f3, .int .u32 x.f4, .bool x.f5], rfl, rfl, ⟨[.bool x.f3], [.int .u32 x.f4, .bool x.f5], rfl, rfl, ⟨[.int .u32 x.f4], [.bool x.f5], rfl, rfl, rfl⟩⟩⟩⟩⟩
def rd_T149 (xs : List S149) (i : Int) : S149 := xs.getD i.toNat z149
theorem at_T149 {w : World} {A : Option Addr} {n : Nat} {xs : List S149} (h : Kd.C k149 w A n xs) (i : Int) (h0 : 0 ≤ i) (h1 : i < n) : ∃ ad A2 c2 A3 c3 A4 c4 A5 c5, A = some ad ∧ w.cell? (ad.add (i.toNat * 10)) = some (.bool (rd_T149 xs i).f0.f0) ∧ w.cell? ⟨(ad.add (i.toNat * 10)).block, (ad.add (i.toNat * 10)).off + 1, none⟩ = some (.bool (rd_T149 xs i).f0.f1) ∧ w.cell? ⟨(ad.add (i.toNat * 10)).block, (ad.add (i.toNat * 10)).off + 2, none⟩ = some (.slice A2 (rd_T149 xs i).f0.f2.length c2) ∧ w.cell? ⟨(ad.add (i.toNat * 10)).block, (ad.add (i.toNat * 10)).off + 3, none⟩ = some (.slice A3 (rd_T149 xs i).f0.f3.f0.length c3) ∧ w.cell? ⟨(ad.add (i.toNat * 10)).block, (ad.add (i.toNat * 10)).off + 4, none⟩ = some (.slice A4 (rd_T149 xs i).f0.f3.f1.length c4) ∧ w.cell? ⟨(ad.add (i.toNat * 10)).block, (ad.add (i.toNat * 10)).off + 5, none⟩ = some (.slice A5 (rd_T149 xs i).f1.length c5) ∧ w.cell? ⟨(ad.add (i.toNat * 10)).block, (ad.add (i.toNat * 10)).off + 6, none⟩ = some (.int .i64 (rd_T149 xs i).f2) ∧ w.cell? ⟨(ad.add (i.toNat * 10)).block, (ad.add (i.toNat * 10)).off + 7, none⟩ = some (.bool (rd_T149 xs i).f3) ∧ w.cell? ⟨(ad.add (i.toNat * 10)).block, (ad.add (i.toNat * 10)).off + 8, none⟩ = some (.int .u32 (rd_T149 xs i).f4) ∧ w.cell? ⟨(ad.add (i.toNat * 10)).block, (ad.add (i.toNat * 10)).off + 9, none⟩ = some (.bool (rd_T149 xs i).f5) ∧ (rd_T149 xs i).f0.f2.length ≤ c2 ∧ k31.C w A2 (rd_T149 xs i).f0.f2.length (rd_T149 xs i).f0.f2 ∧ (rd_T149 xs i).f0.f3.f0.length ≤ c3 ∧ (Kd.int .i64).C w A3 (rd_T149 xs i).f0.f3.f0.length (rd_T149 xs i).f0.f3.f0 ∧ (rd_T149 xs i).f0.f3.f1.length ≤ c4 ∧ (Kd.int .i64).C w A4 (rd_T149 xs i).f0.f3.f1.length (rd_T149 xs i).f0.f3.f1 ∧ (rd_T149 xs i).f1.length ≤ c5 ∧ (Kd.int .i64).C w A5 (rd_T149 xs i).f1.length (rd_T149 xs i).f1 := by
  obtain ⟨ad, c, e, _, hK, hc0⟩ := Kd.C_get h z149 i h0 h1
  have hc : ∀ j u, c[j]? = some u → w.cell? (ad.add (i.toNat * 10 + j)) = some u := hc0
  obtain ⟨A2, c2, A3, c3, A4, c4, A5, c5, rfl, l2, g2, l3, g3, l4, g4, l5, g5⟩ := k149_open hK
  exact ⟨ad, A2, c2, A3, c3, A4, c4, A5, c5, e, hc 0 _ rfl, by rw [← add_field _ _ 1 (by omega)]; exact hc 1 _ rfl, by rw [← add_field _ _ 2 (by omega)]; exact hc 2 _ rfl, by rw [← add_field _ _ 3 (by omega)]; exact hc 3 _ rfl, by rw [← add_field _ _ 4 (by omega)]; exact hc 4 _ rfl, by rw [← add_field _ _ 5 (by omega)]; exact hc 5 _ rfl, by rw [← add_field _ _ 6 (by omega)]; exact hc 6 _ rfl, by rw [← add_field _ _ 7 (by omega)]; exact hc 7 _ rfl, by rw [← add_field _ _ 8 (by omega)]; exact hc 8 _ rfl, by rw [← add_field _ _ 9 (by omega)]; exact hc 9 _ rfl, l2, g2, l3, g3, l4, g4, l5, g5⟩

/-! #### struct type 192 -/
structure S192 where
  f0 : Int
  f1 : Int
def z192 : S192 := ⟨(0 : Int), (0 : Int)⟩
def k192 : Kd S192 := Kd.iso (Kd.pair (Kd.int .i64) (Kd.int .i64)) (fun x : S192 => (x.f0, x.f1))
theorem k192_open {w : World} {x : S192} {cs : List Value} (h : k192.K w x cs) : cs = [.int .i64 x.f0, .int .i64 x.f1] := by
  obtain ⟨_, _, rfl, rfl, rfl⟩ := h
  exact rfl
theorem k192_openM {w : World} {base : Nat} {ok : Nat → Prop} {x : S192} {cs : List Value} (h : k192.M w base ok x cs) : cs = [.int .i64 x.f0, .int .i64 x.f1] := by
  obtain ⟨_, _, rfl, rfl, rfl⟩ := h
  exact rfl
theorem k192_mk (w : World) (x : S192)  : k192.K w x [.int .i64 x.f0, .int .i64 x.f1] := ⟨[.int .i64 x.f0], [.int .i64 x.f1], rfl, rfl, rfl⟩
theorem k192_mkM (w : World) (base : Nat) (ok : Nat → Prop) (x : S192)  : k192.M w base ok x [.int .i64 x.f0, .int .i64 x.f1] := ⟨[.int .i64 x.f0], [.int .i64 x.f1], rfl, rfl, rfl⟩
def rd_T192 (xs : List S192) (i : Int) : S192 := xs.getD i.toNat z192
theorem at_T192 {w : World} {A : Option Addr} {n : Nat} {xs : List S192} (h : Kd.C k192 w A n xs) (i : Int) (h0 : 0 ≤ i) (h1 : i < n) : ∃ ad , A = some ad ∧ w.cell? (ad.add (i.toNat * 2)) = some (.int .i64 (rd_T192 xs i).f0) ∧ w.cell? ⟨(ad.add (i.toNat * 2)).block, (ad.add (i.toNat * 2)).off + 1, none⟩ = some (.int .i64 (rd_T192 xs i).f1) := by
  obtain ⟨ad, c, e, _, hK, hc0⟩ := Kd.C_get h z192 i h0 h1
  have hc : ∀ j u, c[j]? = some u → w.cell? (ad.add (i.toNat * 2 + j)) = some u := hc0
  obtain rfl := k192_open hK
  exact ⟨ad, e, hc 0 _ rfl, by rw [← add_field _ _ 1 (by omega)]; exact hc 1 _ rfl⟩

def rd_L11 (xs : List (List S192)) (i : Int) : (List S192) := xs.getD i.toNat ([] : List S192)
theorem at_L11 {w : World} {A : Option Addr} {n : Nat} {xs : List (List S192)} (h : Kd.C (Kd.slice 192 k192) w A n xs) (i : Int) (h0 : 0 ≤ i) (h1 : i < n) : ∃ ad A0 c0, A = some ad ∧ w.cell? (ad.add i.toNat) = some (.slice A0 (rd_L11 xs i).length c0) ∧ (rd_L11 xs i).length ≤ c0 ∧ k192.C w A0 (rd_L11 xs i).length (rd_L11 xs i) := by
  obtain ⟨ad, c, e, _, hK, hc0⟩ := Kd.C_get h ([] : List S192) i h0 h1
  have hc : ∀ j u, c[j]? = some u → w.cell? (ad.add (i.toNat * 1 + j)) = some u := hc0
  obtain ⟨A0, c0, rfl, l0, g0⟩ := hK
  exact ⟨ad, A0, c0, e, by have hq := hc 0 _ rfl; rwa [Nat.mul_one, Nat.add_zero] at hq, l0, g0⟩

end Go.Proofs.YthlmgbdknjilpaaGreat.PAskCodes
