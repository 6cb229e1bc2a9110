/- law14.Awake, walked: it answers true. -/
import Derived.Test.YtchjjoepikcmfaaGreatStart
namespace Go.Proofs.YtchjjoepikcmfaaGreat.Tower
open Go Go.RowKit Go.Proofs.YtchjjoepikcmfaaGreatW.PrintWords Go.Proofs.YtchjjoepikcmfaaGreatW.PrintLast Go.Proofs.YtchjjoepikcmfaaGreatW.PrintMore Go.Proofs.YtchjjoepikcmfaaGreat.Own
set_option linter.unusedVariables false
set_option linter.unusedSimpArgs false

def rRoot : Int := 1099511627777
def rEntry : Int := 1099511627778
/-- The world of the example: an empty leaf as root, the entry above it. -/
def X14 : Ws := ⟨⟨[slotOf nd0 1, slotOf (ndE rRoot) 1], [], 9, 2, 0⟩, ⟨[], 9⟩, ⟨0, [-1], [[]]⟩, 2, 3, rEntry⟩
theorem x14_made : ws0 2 3 1 9 9 = some X14 := by kernel_rfl
theorem x14_runs : aloneT (menderT 5 9) 3000 X14 [] = some (some [0], 2999, X14, [rRoot]) := by kernel_rfl
theorem x14_good : X14.ar.Good := ⟨by decide, by decide, by decide, fun i s hi => by
  have hl : i < 2 := (List.getElem?_eq_some_iff.1 hi).1
  match i, hl with
  | 0, _ => simp [X14] at hi; subst hi; exact ⟨⟨by decide, by decide, by decide⟩, by decide⟩
  | 1, _ => simp [X14] at hi; subst hi; exact ⟨⟨by decide, by decide, by decide⟩, by decide⟩⟩
theorem x14_wrong : wrongOf 2 nd0 false = 2 := by decide

theorem aloneT_ret {X : Type} (tw : Pr X (List Int)) : ∀ (f : Nat) (x : X) (log : List Int) (l : List Int) (q : Nat × X × List Int), aloneT tw f x log = some (some l, q) → ∃ s s1, tw s = some (.ret l, s1)
  | 0, x, log, l, q, h => by
    injection h with h
    cases h
  | f + 1, x, log, l, q, h => by
    unfold aloneT at h
    cases ht : tw ⟨x, log, 0, false⟩ with
    | none => rw [ht] at h; cases h
    | some r =>
      obtain ⟨o, s1⟩ := r
      rw [ht] at h
      cases o with
      | wait => exact aloneT_ret tw f _ _ l q h
      | ret l1 =>
        injection h with h
        injection h with h _
        injection h with h
        subst h
        exact ⟨_, _, ht⟩
theorem menderT_len {key : Int} {f : Nat} {s s1 : TS Ws} {l : List Int} (h : menderT key f s = some (.ret l, s1)) : l.length = 1 := by
  unfold menderT prBind at h
  cases hd : mendT0 key f s with
  | none => rw [hd] at h; cases h
  | some r =>
    obtain ⟨o, s2⟩ := r
    rw [hd] at h
    cases o with
    | wait => cases h
    | ret b =>
      injection h with h
      injection h with h _
      injection h with h
      subst h
      rfl
/-- What a mender's closures capture. -/
def MenderBx (p : Nat) (me key : Int) (bf bw bm bk : Nat) (ok : Nat → Prop) (w : World) : Prop :=
  StartBx 72 #[.pointer (some ⟨bk, 0, none⟩)] p me bf bw bm ok w ∧ Mine ok w bk (.cells #[.int .i64 key] 2 (0, 0))
theorem MenderBx.moves {p : Nat} {me key : Int} {bf bw bm bk : Nat} (ok ok1 : Nat → Prop) (w w1 : World) (h : MenderBx p me key bf bw bm bk ok w) (m : Moves ok ok1 w w1) : MenderBx p me key bf bw bm bk ok1 w1 := ⟨h.1.moves m, h.2.moves m⟩
/-- A mender goes on alone. -/
theorem mender_alone (p tb : Nat) (me key : Int) (bf bw bm bk : Nat) (ok : Nat → Prop) (x : Ws) (log : List Int) (at_ : Int) (spent : Bool) (w : World) (f : Nat) (hf : f < 900000)
    (h : Idle (shW p) tb (startWork bf bw bm) ok x (thOf log at_ spent) w) (hl : log.length < 1000000) (hB : MenderBx p me key bf bw bm bk ok w)
    (res : Option (List Int) × Nat × Ws × List Int) (hr : aloneT (menderT key f) 3000 x log = some res) :
    Calls Tryz.prog 25 #[.pointer (some ⟨tb, 0, none⟩)] w (AlonePost (shW p) tb (startWork bf bw bm) ok res w) := by
  refine alone_calls (shW_shared p) tb 86 #[.pointer (some ⟨bf, 0, none⟩), .pointer (some ⟨bw, 0, none⟩), .pointer (some ⟨bm, 0, none⟩)] ok x log at_ spent w (MenderBx p me key bf bw bm bk) (menderT key f) h hl (MenderBx.moves) hB (enters Tryz.func86 (by kernel_rfl) rfl _) ?_ ?_ res hr
  · intro ok1 s w1 res1 hi hb hres
    exact start1_calls (shW_shared p) 72 #[.pointer (some ⟨bk, 0, none⟩)] p me tb bf bw bm ok1 s w1 _ res1 hi hb.1 (enters Tryz.func72 (by kernel_rfl) rfl _) (mender1_calls p tb _ me key bk ok1 s w1 hi hb.2 f hf res1 hres)
  · intro l q x1 log1 h1
    obtain ⟨s, s1, h2⟩ := aloneT_ret _ _ _ _ _ _ h1
    have := menderT_len h2
    omega

set_option maxHeartbeats 4000000 in
set_option maxRecDepth 100000 in
theorem awake14 (w : World) : Calls Tryz.prog 12 #[] w fun e w1 => e = .returned (.bool true) ∧ Below w.heap.size w w1 := by
  go_enter Tryz.func12, Tryz.ntmps12
  go_upto_region 2 with (go_at_call 49; refine (world_new 2 3 1 9 9 _ (by omega) (by omega) (by omega) (by omega) (by omega) (by omega) (by omega) (by omega) (by omega) (by omega) X14 x14_made).mono ?_; rintro e w1 ⟨ok1, p, rfl, hw1, hf1, hb1⟩; have W1 := Aside0.mk hw1; have F1 := Aside0.mk hf1; have B1 := Aside0.mk hb1; clear hw1 hf1 hb1)
  go_upto_region 5 with (go_at_call 41; refine (mender_calls p 0 5 _).mono ?_; rintro e w2 ⟨tb, bf, bw, bm, bk, rfl, h1, h2, h3, h4, h5, h6, h7, h8, h9, ht, hs, hk, hb⟩; have L2 := Aside0.mk (And.intro h1 (And.intro h2 (And.intro h3 (And.intro h4 h5)))); have N2 := Aside0.mk (And.intro h6 (And.intro h7 (And.intro h8 h9))); have T2 := Aside0.mk ht; have S2 := Aside0.mk hs; have K2 := Aside0.mk hk; have B2 := Aside0.mk hb; clear h1 h2 h3 h4 h5 h6 h7 h8 h9 ht hs hk hb)
  have hlt1 : ∀ k, ok1 k → k < w1.heap.size := (worldShared p).lt W1.out
  have hW2 : shW p X14 ok1 w2 := ⟨(worldShared p).step W1.out B2.out.size (fun k _ hlt => B2.out.block k hlt), x14_good⟩
  obtain ⟨l1, l2, l3, l4, l5⟩ := L2.out
  obtain ⟨n1, n2, n3, n4⟩ := N2.out
  have HID : Aside0 (Idle (shW p) tb (startWork bf bw bm) (fun k => k = tb ∨ ok1 k) X14 (thOf [] 0 false) w2) := ⟨⟨fun k => k = tb, ok1, fun _ => Iff.rfl, fun k hk h => by have := hlt1 k h; omega, T2.out, hW2⟩⟩
  have hno : ∀ b, w1.heap.size ≤ b → tb ≠ b → ¬ (b = tb ∨ ok1 b) := fun b hb hn h => h.elim (fun e => hn e.symm) (fun h1 => by have := hlt1 b h1; omega)
  have HBX : Aside0 (MenderBx p 0 5 bf bw bm bk (fun k => k = tb ∨ ok1 k) w2) := ⟨⟨⟨S2.out.hf.1, hno bf l2 n1⟩, ⟨S2.out.hw.1, hno bw l3 n2⟩, ⟨S2.out.hm.1, hno bm l4 n3⟩⟩, ⟨K2.out.1, hno bk l5 n4⟩⟩
  have HB2 := Aside0.mk (below_then B1.out B1.out.size B2.out)
  have HO2 : Aside0 (∀ k, (k = tb ∨ ok1 k) → w.heap.size ≤ k) := ⟨fun k hk => hk.elim (fun e => by have := B1.out.size; omega) (F1.out k)⟩
  clear hlt1 hW2 l1 l2 l3 l4 l5 n1 n2 n3 n4 hno W1 F1 B1 L2 N2 T2 S2 K2 B2
  go_wp2_with fail
  refine (mender_alone p tb 0 5 bf bw bm bk _ X14 [] 0 false _ 9 (by omega) HID.out (by simp) HBX.out _ x14_runs).mono ?_
  rintro e w3 ⟨ok3, hm3, _, at3, sp3, hi3, v, rfl, hv⟩
  have B3 := Aside0.mk (moves_outer hm3 HB2.out HO2.out)
  obtain ⟨okT, okS, _, _, ht3, _⟩ := hi3.out
  have hc0 := came_calls w3 ht3 rfl (by simp)
  rw [show cameOf [0] = 0 from rfl] at hc0
  have HC := Aside0.mk hc0
  clear hc0
  clear hi3 hm3 ht3 HID HBX HB2 HO2 hv
  rw [show (3000 - ((some [0], 2999, X14, [rRoot]) : Option (List Int) × Nat × Ws × List Int).snd.fst) = 1 from rfl]
  dsimp only
  go_wp2_with (first | (go_at_call 26; refine HC.out.mono ?_; rintro e w4 ⟨rfl, hb4⟩; have B4 := Aside0.mk (below_then B3.out B3.out.size hb4); clear hb4) | (go_at_call 13; refine (mend_look 2 nd0 false none none none 0 0 0 _ (by simp [nd0]) (by simp [nd0])).mono ?_; rintro e w5 ⟨rfl, hb5⟩; have B5 := Aside0.mk (below_then B4.out B4.out.size hb5); clear hb5; rw [x14_wrong]))
  go_ret
  exact ⟨rfl, B5.out⟩
end Go.Proofs.YtchjjoepikcmfaaGreat.Tower
