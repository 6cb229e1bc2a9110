/- A list of entries that comes in: its cells, read as words. -/
import Derived.Test.YtkommjibpeklgaaPScriptBackx0
import Derived.WalkKit
import Derived.ProofKit
import Derived.Below
import Derived.Deep.Slices
import Derived.Lib.SmallJoins
namespace Go.Proofs.Ytkommjibpeklgaa.ArgsPScriptBack
open Go Go.ChangeShapes Go.WideShapes Go.ChangeAt Go.RowKit Go.Joins Go.Deep Go.Proofs.Ytkommjibpeklgaa.PScriptBack Go.Proofs.YtkommjibpeklgaaW.PrintWords Go.Proofs.YtkommjibpeklgaaW.PrintLast
set_option linter.unusedVariables false

/-- Numbers of their kinds. -/
def Fits (s : S27) : Prop := (Lit.int .u8 s.f0).wf = true ∧ (Lit.int .u8 s.f1).wf = true ∧ (Lit.int .u8 s.f2.f0).wf = true ∧ (Lit.int .i64 s.f2.f1).wf = true ∧ (Lit.int .i64 s.f2.f2).wf = true ∧ (Lit.int .i64 s.f2.f3).wf = true

theorem Fits.kind {s : S27} (h : Fits s) : 0 ≤ s.f2.f0 := by
  have : 0 ≤ s.f2.f0 ∧ s.f2.f0 ≤ 255 := by simpa [Lit.wf, IntKind.min, IntKind.max, IntKind.bits, IntKind.signed] using h.2.2.1
  exact this.1

section
variable {H : Type} {enc : TypeId × Value → H} {w : World} {base : Nat} {spare : Nat → Bool} {held : Bool}
theorem op_cells {n : Nat} {cs : List Value} {x : DataW H × List MemPlace} (h : DataW.trod enc Try.prog w base spare held n 25 cs = some x) :
    ∃ s : S25, cs = [.int .u8 s.f0, .int .i64 s.f1, .int .i64 s.f2, .int .i64 s.f3] ∧ (Lit.int .u8 s.f0).wf = true ∧ (Lit.int .i64 s.f1).wf = true ∧ (Lit.int .i64 s.f2).wf = true ∧ (Lit.int .i64 s.f3).wf = true := by
  obtain ⟨y0, y1, y2, y3, n, rfl, hl, h0, h1, h2, h3⟩ := trod_struct4 Try.underlying25 h
  rw [show Try.prog.cellsOf 25 = 4 by kernel_rfl] at hl
  match cs, hl with
  | [c0, c1, c2, c3], _ =>
    rw [show Try.prog.cellsOf 23 = 1 by kernel_rfl] at h0
    rw [show Try.prog.cellsOf 2 = 1 by kernel_rfl] at h1 h2 h3
    obtain ⟨K, e0, rfl, w0⟩ := DataW.trod_int Try.underlying23 h0
    obtain ⟨a, e1, rfl, w1⟩ := DataW.trod_int Try.underlying2 h1
    obtain ⟨b, e2, rfl, w2⟩ := DataW.trod_int Try.underlying2 h2
    obtain ⟨c, e3, rfl, w3⟩ := DataW.trod_int Try.underlying2 h3
    simp at e0 e1 e2 e3
    subst e0 e1 e2 e3
    exact ⟨⟨K, a, b, c⟩, rfl, w0, w1, w2, w3⟩

theorem entry_cells {n : Nat} {cs : List Value} {x : DataW H × List MemPlace} (h : DataW.trod enc Try.prog w base spare held n 27 cs = some x) :
    ∃ s : S27, cs = [.int .u8 s.f0, .int .u8 s.f1, .int .u8 s.f2.f0, .int .i64 s.f2.f1, .int .i64 s.f2.f2, .int .i64 s.f2.f3] ∧ Fits s := by
  obtain ⟨y0, y1, y2, n, rfl, hl, h0, h1, h2⟩ := trod_struct3 Try.underlying27 h
  rw [show Try.prog.cellsOf 27 = 6 by kernel_rfl] at hl
  match cs, hl with
  | [c0, c1, c2, c3, c4, c5], _ =>
    rw [show Try.prog.cellsOf 22 = 1 by kernel_rfl] at h0
    rw [show Try.prog.cellsOf 5 = 1 by kernel_rfl] at h1
    rw [show Try.prog.cellsOf 25 = 4 by kernel_rfl] at h2
    obtain ⟨e, e0, rfl, w0⟩ := DataW.trod_int Try.underlying22 h0
    obtain ⟨d, e1, rfl, w1⟩ := DataW.trod_int Try.underlying5 h1
    obtain ⟨⟨K, a, b, c⟩, e2, w2, w3, w4, w5⟩ := op_cells h2
    simp at e0 e1 e2
    obtain ⟨rfl, rfl, rfl, rfl⟩ := e2
    subst e0 e1
    exact ⟨⟨e, d, ⟨K, a, b, c⟩⟩, rfl, w0, w1, w2, w3, w4, w5⟩

theorem choose_list {α : Type} {p : Nat → α → Prop} : ∀ n : Nat, (∀ i, i < n → ∃ x, p i x) → ∃ xs : List α, xs.length = n ∧ ∀ i x, xs[i]? = some x → p i x
  | 0, _ => ⟨[], rfl, fun i x h => by simp at h⟩
  | n + 1, h => by
    obtain ⟨xs, hl, hp⟩ := choose_list n (fun i hi => h i (by omega))
    obtain ⟨y, hy⟩ := h n (by omega)
    refine ⟨xs ++ [y], by simp [hl], fun i x hx => ?_⟩
    rw [List.getElem?_append] at hx
    split at hx
    · exact hp i x hx
    · next hi =>
      have : i - xs.length = 0 := by
        rcases Nat.eq_zero_or_pos (i - xs.length) with h | h
        · exact h
        · rw [List.getElem?_eq_none (by simp; omega)] at hx; cases hx
      rw [this] at hx
      simp at hx
      subst hx
      rwa [show i = n by omega]

/-- A list of entries, opened. -/
theorem open_entries {a : Option Addr} {len cap : Nat} {d : DataW H} {p : List MemPlace} (h : DataW.Trod enc Try.prog w base (fun _ => true) held 30 (.slice a len cap) d p) :
    ∃ xs : List S27, xs.length = len ∧ Kd.C k27 w a xs.length xs ∧ xs.length ≤ cap ∧ ∀ s ∈ xs, Fits s := by
  obtain ⟨fuel, hf⟩ := h
  rcases open_slice Try.underlying30 hf with ⟨hcs, _⟩ | ⟨x, l, c, m, n, D, Pl, hcs, hb, hl, hm, hmm, hx, hi⟩
  · simp [Value.cells] at hcs
    obtain ⟨rfl, rfl, rfl⟩ := hcs
    exact ⟨[], rfl, ⟨rfl, by simp, fun h => absurd h (by simp)⟩, by simp, by simp⟩
  · simp [Value.cells] at hcs
    obtain ⟨rfl, rfl, rfl⟩ := hcs
    rw [if_pos rfl] at hmm
    subst hmm
    rw [show Try.prog.cellsOf 27 = 6 by kernel_rfl] at hi
    have hall : ∀ i, i < len → ∃ s : S27, (∀ j u, [Value.int .u8 s.f0, .int .u8 s.f1, .int .u8 s.f2.f0, .int .i64 s.f2.f1, .int .i64 s.f2.f2, .int .i64 s.f2.f3][j]? = some u → w.cell? (x.add (i * 6 + j)) = some u) ∧ Fits s := by
      intro i hlt
      obtain ⟨cs', hc, ht⟩ := hi i (by omega)
      obtain ⟨s, rfl, hs⟩ := entry_cells ht
      obtain ⟨_, hcl, hat⟩ := World.cells?_some hc
      refine ⟨s, fun j u hu => ?_, hs⟩
      have hj : j < 6 := by
        rcases Nat.lt_or_ge j 6 with h | h
        · exact h
        · rw [List.getElem?_eq_none (by simpa using h)] at hu; cases hu
      have := hat j hj
      rw [Go.Deep.add_add] at this
      rw [this, hu]
    obtain ⟨xs, hxl, hxp⟩ := choose_list len hall
    have hmax : maxLen ≤ 9223372036854775807 := by decide
    have hxn : xs.length ≤ 9223372036854775807 := by omega
    refine ⟨xs, hxl, ⟨rfl, hxn, fun _ => ⟨x, rfl, fun j s hj => ⟨_, rfl, k27_mk w s, fun i u hu => ?_⟩⟩⟩, by omega, fun s hs => ?_⟩
    · exact (hxp j s hj).1 i u hu
    · obtain ⟨j, hj, rfl⟩ := List.getElem_of_mem hs
      exact (hxp j _ (List.getElem?_eq_getElem hj)).2
end
end Go.Proofs.Ytkommjibpeklgaa.ArgsPScriptBack
