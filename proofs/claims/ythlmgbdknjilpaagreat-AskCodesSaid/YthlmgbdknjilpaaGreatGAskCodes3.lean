/- For every input the law AskCodes answers true, and the input reads as it did. No conditions. -/
import Derived.Test.YthlmgbdknjilpaaGreatPAskCodesx3
import Derived.Test.YthlmgbdknjilpaaGreatPAskCodesx4
import Derived.Test.YthlmgbdknjilpaaGreatRows
import Derived.Test.YthlmgbdknjilpaaGreatGAskCodes0
import Derived.Test.YthlmgbdknjilpaaGreatGAskCodes1
import Derived.Test.YthlmgbdknjilpaaGreatGAskCodes2
import Derived.OwnWalk
import Derived.BigQuiet
import Derived.Deep.Slices
import Derived.Deep.SlicePairs
import Derived.Lib.SmallJoins
import Derived.OpenShut
import Derived.ShutString
import Derived.ChangeOld
import Derived.SizedLaws
namespace Go.Proofs.YthlmgbdknjilpaaGreat.Tower
open Go Go.RowKit Go.Proofs.YthlmgbdknjilpaaGreatW.PrintWords Go.Proofs.YthlmgbdknjilpaaGreatW.PrintLast Go.Proofs.YthlmgbdknjilpaaGreatW.PrintMore Go.Proofs.YthlmgbdknjilpaaGreat.Own
set_option linter.unusedVariables false
set_option linter.unusedSimpArgs false

/-- A thread for an operation has been made. -/
structure AskMade (p : Nat) (me : Int) (o : Opn) (w : World) (e : Ending) (w1 : World) : Prop where
  out : ∃ tb bw bm bo, e = .returned (.pointer (some ⟨tb, 0, none⟩)) ∧ w.heap.size ≤ tb ∧ w.heap.size ≤ bw ∧ w.heap.size ≤ bm ∧ w.heap.size ≤ bo ∧ tb ≠ bw ∧ tb ≠ bm ∧ tb ≠ bo ∧ IsThread (fun k => k = tb) tb (askWork bw bm bo) th0 w1 ∧
    AskBx p me o bw bm bo (fun _ => False) w1 ∧ Below w.heap.size w w1
set_option maxHeartbeats 2000000 in
set_option maxRecDepth 100000 in
theorem asknew_calls (p : Nat) (me : Int) (o : Opn) (w : World) :
    Calls Tryz.prog 14 #[.pointer (some ⟨p, 0, none⟩), .int .i64 me, opV o] w (AskMade p me o w) := by
  have hmf : ∀ (fn : Fn) (first cap : Array Value) (w : World), (Instr.makeFunc fn first cap).run Tryz.prog w = .ok (.func fn first cap) w := fun _ _ _ _ => rfl
  unfold opV
  go_enter Tryz.func14, Tryz.ntmps14
  go_upto_region 1 with fail
  have b1 := Aside0.mk (blk_alloc (blk_alloc (blk_new w (.cells #[.pointer (some ⟨p, 0, none⟩)] 39)) (.cells #[.int .i64 me] 3)) (.cells #[.int .u8 o.kind, .int .i64 o.key, .int .i64 o.upto, .int .i64 o.value] 38))
  have b2 := Aside0.mk (blk_alloc (blk_new (w.alloc (.cells #[.pointer (some ⟨p, 0, none⟩)] 39)) (.cells #[.int .i64 me] 3)) (.cells #[.int .u8 o.kind, .int .i64 o.key, .int .i64 o.upto, .int .i64 o.value] 38))
  have b3 := Aside0.mk (blk_new ((w.alloc (.cells #[.pointer (some ⟨p, 0, none⟩)] 39)).alloc (.cells #[.int .i64 me] 3)) (.cells #[.int .u8 o.kind, .int .i64 o.key, .int .i64 o.upto, .int .i64 o.value] 38))
  have bb := Aside0.mk (below_alloc (below_alloc (below_alloc (Below.refl w.heap.size w) (.cells #[.pointer (some ⟨p, 0, none⟩)] 39)) (.cells #[.int .i64 me] 3)) (.cells #[.int .u8 o.kind, .int .i64 o.key, .int .i64 o.upto, .int .i64 o.value] 38))
  have e1 : (w.alloc (.cells #[.pointer (some ⟨p, 0, none⟩)] 39)).heap.size = w.heap.size + 1 := by simp
  have e2 : ((w.alloc (.cells #[.pointer (some ⟨p, 0, none⟩)] 39)).alloc (.cells #[.int .i64 me] 3)).heap.size = w.heap.size + 1 + 1 := by simp
  rw [e1] at b2
  rw [e2] at b3
  clear e1 e2
  generalize ((w.alloc (.cells #[.pointer (some ⟨p, 0, none⟩)] 39)).alloc (.cells #[.int .i64 me] 3)).alloc (.cells #[.int .u8 o.kind, .int .i64 o.key, .int .i64 o.upto, .int .i64 o.value] 38) = w1 at b1 b2 b3 bb ⊢
  go_wp2_with (go_at_call 38; refine (new_calls 39 #[.pointer (some ⟨w.heap.size, 0, none⟩), .pointer (some ⟨w.heap.size + 1, 0, none⟩), .pointer (some ⟨w.heap.size + 1 + 1, 0, none⟩)] _).mono ?_; rintro e w2 ⟨tb, rfl, htb, hth, hbl⟩; have T0 := Aside0.mk htb; have T1 := Aside0.mk hth; have T2 := Aside0.mk hbl; clear htb hth hbl)
  go_ret
  have l1 := blk_lt b1.out
  have l2 := blk_lt b2.out
  have l3 := blk_lt b3.out
  have l4 := T0.out
  exact ⟨⟨tb, w.heap.size, w.heap.size + 1, w.heap.size + 1 + 1, rfl, by omega, by omega, by omega, by omega, by omega, by omega, by omega, T1.out, ⟨⟨blk_below b1.out T2.out, id⟩, ⟨blk_below b2.out T2.out, id⟩, ⟨blk_below b3.out T2.out, id⟩⟩, below_then bb.out bb.out.size T2.out⟩⟩
theorem alone_ret {X : Type} (tw : Pr X (List Int)) : ∀ (f : Nat) (x : X) (log : List Int) (l : List Int) (q : Nat × X × List Int), aloneT tw f x log = some (some l, q) → ∃ s s1, tw s = some (.ret l, s1)
  | 0, x, log, l, q, h => by
    injection h with h
    cases h
  | f + 1, x, log, l, q, h => by
    unfold aloneT at h
    cases ht : tw ⟨x, log, 0, false⟩ with
    | none => rw [ht] at h; cases h
    | some r =>
      obtain ⟨o, s1⟩ := r
      rw [ht] at h
      cases o with
      | wait => exact alone_ret tw f _ _ l q h
      | ret l1 =>
        injection h with h
        injection h with h _
        injection h with h
        subst h
        exact ⟨_, _, ht⟩
theorem getT_pairs {key : Int} {f : Nat} {s t : TS Ws} {a : Ans} (h : getT key f s = some (.ret a, t)) : a.pairs = [] := by
  obtain ⟨o, t1, hm, hc⟩ := prBind_some h
  rcases hc with ⟨_, hc⟩ | ⟨q, rfl, hc⟩
  · injection hc with hc _; cases hc
  injection hc with hc
  injection hc with hc _
  injection hc with hc
  rw [← hc]
theorem askNT_get_len {me key : Int} {f g : Nat} {s t : TS Ws} {l : List Int} (h : askNT me f (getT key g) s = some (.ret l, t)) : l.length = 5 := by
  obtain ⟨o, t1, hm, hc⟩ := prBind_some h
  rcases hc with ⟨_, hc⟩ | ⟨u, rfl, hc⟩
  · injection hc with hc _; cases hc
  obtain ⟨o, t2, hm2, hc⟩ := prBind_some hc
  rcases hc with ⟨_, hc⟩ | ⟨a, rfl, hc⟩
  · injection hc with hc _; cases hc
  obtain ⟨o, t3, hm3, hc⟩ := prBind_some hc
  rcases hc with ⟨_, hc⟩ | ⟨u, rfl, hc⟩
  · injection hc with hc _; cases hc
  injection hc with hc
  injection hc with hc _
  injection hc with hc
  rw [← hc]
  simp [codeOf, getT_pairs hm2]
/-- A thread that asks for one key goes on alone. -/
theorem get_alone (p tb : Nat) (me key upto value : Int) (bw bm bo : Nat) (ok : Nat → Prop) (x : Ws) (log : List Int) (at_ : Int) (spent : Bool) (w : World) (f g : Nat) (hg : g < 900000)
    (h : Idle (shW p) tb (askWork bw bm bo) ok x (thOf log at_ spent) w) (hl : log.length < 1000000) (hB : AskBx p me ⟨0, key, upto, value⟩ bw bm bo ok w)
    (res : Option (List Int) × Nat × Ws × List Int) (hr : aloneT (askNT me f (getT key g)) 3000 x log = some res) :
    Calls Tryz.prog 15 #[.pointer (some ⟨tb, 0, none⟩)] w (AlonePost (shW p) tb (askWork bw bm bo) ok res w) := by
  refine alone_calls (shW_shared p) tb 39 #[.pointer (some ⟨bw, 0, none⟩), .pointer (some ⟨bm, 0, none⟩), .pointer (some ⟨bo, 0, none⟩)] ok x log at_ spent w (AskBx p me ⟨0, key, upto, value⟩ bw bm bo) (askNT me f (getT key g)) h hl (AskBx.moves) hB (enters Tryz.func39 (by kernel_rfl) rfl _) ?_ ?_ res hr
  · intro ok1 s w1 res1 hi hb hres
    exact asknew1_calls p tb _ me ⟨0, key, upto, value⟩ bw bm bo ok1 s w1 f (getT key g) hi hb (fun ok s w res h1 h2 => do_get p tb _ me ok s w key upto value h1 g hg res h2) (fun s a t h1 => by rw [getT_pairs h1]; simp) res1 hres
  · intro l q x1 log1 h1
    obtain ⟨s, s1, h2⟩ := alone_ret _ _ _ _ _ _ h1
    have := askNT_get_len h2
    omega

def qRoot : Int := 1099511627777
def qEntry : Int := 1099511627778
/-- The world of the example: an empty leaf as root, the entry above it. -/
def X19 : Ws := ⟨⟨[slotOf nd0 1, slotOf (ndE qRoot) 1], [], 9, 2, 0⟩, ⟨[], 9⟩, ⟨0, [-1], [[]]⟩, 2, 3, qEntry⟩
theorem x19_made : ws0 2 3 1 9 9 = some X19 := by kernel_rfl
theorem x19_runs : (aloneT (askNT 0 9 (getT 5 9)) 3000 X19 []).map (fun r => (r.1, r.2.1)) = some (some [0, 0, 0, 0, 0], 2992) := by kernel_rfl
theorem x19_good : X19.Good := ⟨⟨by decide, by decide, by decide, by decide, fun i s hi => by
  have hl : i < 2 := (List.getElem?_eq_some_iff.1 hi).1
  match i, hl with
  | 0, _ => simp [X19] at hi; subst hi; exact ⟨⟨by decide, by decide, by decide⟩, by decide⟩
  | 1, _ => simp [X19] at hi; subst hi; exact ⟨⟨by decide, by decide, by decide⟩, by decide⟩⟩, ⟨by decide⟩, ⟨by decide, by decide, fun i e hi => by simp [X19] at hi⟩⟩
set_option maxHeartbeats 4000000 in
set_option maxRecDepth 100000 in
theorem awake19 (w : World) : Calls Tryz.prog 9 #[] w fun e w1 => e = .returned (.bool true) ∧ Below w.heap.size w w1 := by
  go_enter Tryz.func9, Tryz.ntmps9
  go_upto_region 2 with (go_at_call 32; refine (world_new 2 3 1 9 9 _ (by omega) (by omega) (by omega) (by omega) (by omega) (by omega) (by omega) (by omega) (by omega) (by omega) X19 x19_made).mono ?_; rintro e w1 ⟨ok1, p, rfl, hw1, hf1, hb1⟩; have W1 := Aside0.mk hw1; have F1 := Aside0.mk hf1; have B1 := Aside0.mk hb1; clear hw1 hf1 hb1)
  go_upto_region 5 with (go_at_call 14; refine (asknew_calls p 0 ⟨0, 5, 0, 0⟩ _).mono ?_; rintro e w2 ⟨tb, bw, bm, bo, rfl, h1, h2, h3, h4, h5, h6, h7, ht, hs, hb⟩; have L2 := Aside0.mk (And.intro h1 (And.intro h2 (And.intro h3 h4))); have N2 := Aside0.mk (And.intro h5 (And.intro h6 h7)); have T2 := Aside0.mk ht; have S2 := Aside0.mk hs; have B2 := Aside0.mk hb; clear h1 h2 h3 h4 h5 h6 h7 ht hs hb)
  have hlt1 : ∀ k, ok1 k → k < w1.heap.size := (worldShared p).lt W1.out
  have hW2 : shW p X19 ok1 w2 := ⟨(worldShared p).step W1.out B2.out.size (fun k _ hlt => B2.out.block k hlt), x19_good⟩
  obtain ⟨l1, l2, l3, l4⟩ := L2.out
  obtain ⟨n1, n2, n3⟩ := N2.out
  have HID : Aside0 (Idle (shW p) tb (askWork bw bm bo) (fun k => k = tb ∨ ok1 k) X19 (thOf [] 0 false) w2) := ⟨⟨fun k => k = tb, ok1, fun _ => Iff.rfl, fun k hk h => by have := hlt1 k h; omega, T2.out, hW2⟩⟩
  have hno : ∀ b, w1.heap.size ≤ b → tb ≠ b → ¬ (b = tb ∨ ok1 b) := fun b hb hn h => h.elim (fun e => hn e.symm) (fun h1 => by have := hlt1 b h1; omega)
  have HBX : Aside0 (AskBx p 0 ⟨0, 5, 0, 0⟩ bw bm bo (fun k => k = tb ∨ ok1 k) w2) := ⟨⟨⟨S2.out.hw.1, hno bw l2 n1⟩, ⟨S2.out.hm.1, hno bm l3 n2⟩, ⟨S2.out.ho.1, hno bo l4 n3⟩⟩⟩
  have HB2 := Aside0.mk (below_then B1.out B1.out.size B2.out)
  have HO2 : Aside0 (∀ k, (k = tb ∨ ok1 k) → w.heap.size ≤ k) := ⟨fun k hk => hk.elim (fun e => by have := B1.out.size; omega) (F1.out k)⟩
  clear hlt1 hW2 l1 l2 l3 l4 n1 n2 n3 hno W1 F1 B1 L2 N2 T2 S2 B2
  obtain ⟨res, hres, hmap⟩ := Option.map_eq_some_iff.1 x19_runs
  obtain ⟨o3, n3, x3, log3⟩ := res
  injection hmap with hm1 hm2
  simp only at hm1 hm2
  subst hm1
  subst hm2
  have HRS := Aside0.mk hres
  clear hres
  go_upto_region 6 with (go_at_call 15; refine (get_alone p tb 0 5 0 0 bw bm bo _ X19 [] 0 false _ 9 9 (by omega) HID.out (by simp) HBX.out _ HRS.out).mono ?_; rintro e w3 ⟨ok3, hm3, _, at3, sp3, hi3, v, rfl, hv⟩; have B3 := Aside0.mk (moves_outer hm3 HB2.out HO2.out); have I3 := Aside0.mk hi3; rw [show ((3000 - ((some [0, 0, 0, 0, 0], 2992, x3, log3) : Option (List Int) × Nat × Ws × List Int).snd.fst : Nat) : Int) = 8 from rfl]; clear hm3 hi3 hv HID HBX HB2 HO2 HRS)
  obtain ⟨okT, okS, _, _, ht3, _⟩ := I3.out.out
  have T3 := Aside0.mk ht3
  clear ht3 I3
  go_upto_region 7 with (go_at_call 10; refine (code_calls ⟨0, true, 3, 0, [], false⟩ none 0 _ (Kd.R_reads' (Kd.R_nil (kPair) 0 w3 0 (fun _ => True))).2.2 (Nat.le_refl _) (by simp)).mono ?_; rintro e w4 ⟨v7, rfl, hv, hb⟩; obtain ⟨A7, c7, rfl⟩ := Kd.R_slice hv; have V7 := Aside0.mk hv; have B4 := Aside0.mk (below_then B3.out B3.out.size hb); have T4 := Aside0.mk (T3.out.step hb.size (fun k _ hlt => hb.block k hlt)); clear hv hb)
  have hcd : codeOf ⟨0, true, 3, 0, [], false⟩ = [0, 1, 3, 0, 0] := rfl
  rw [hcd] at V7 ⊢
  clear hcd B3 T3
  obtain ⟨g, cap, e1, _⟩ := Kd.R_form V7.out (by simp)
  injection e1 with e1 _ _
  subst e1
  have hl5 : ([0, 1, 3, 0, 0] : List Int).length = 5 := rfl
  have hl6 : ([0, 0, 0, 0, 0] : List Int).length = 5 := rfl
  have HOC := Aside0.mk (out_calls w4 T4.out rfl (by simp))
  clear T4
  rw [hl5] at V7 ⊢
  go_wp2_with (go_at_call 16; refine HOC.out.mono ?_; rintro e w5 ⟨vo, rfl, hv, hb⟩; obtain ⟨Ao, co, rfl⟩ := Kd.R_slice hv; have V5 := Aside0.mk (Kd.R_below V7.out hb); have B5 := Aside0.mk (below_then B4.out B4.out.size hb); have r1 := (Kd.R_cell (0 : Int) V5.out 1 (by omega) (by omega)).1; have q1 : w5.cell? ⟨g, 1, none⟩ = some (.int .i64 1) := r1; have r2 := (Kd.R_cell (0 : Int) V5.out 2 (by omega) (by omega)).1; have q2 : w5.cell? ⟨g, 2, none⟩ = some (.int .i64 3) := r2; clear r1 r2; clear hv hb; try rw [hl6])
  go_ret
  exact ⟨rfl, B5.out⟩
end Go.Proofs.YthlmgbdknjilpaaGreat.Tower
namespace Go.Proofs.YthlmgbdknjilpaaGreat.Tower
open Go Go.RowKit Go.Proofs.YthlmgbdknjilpaaGreatW.PrintWords Go.Proofs.YthlmgbdknjilpaaGreatW.PrintLast Go.Proofs.YthlmgbdknjilpaaGreatW.PrintMore Go.Proofs.YthlmgbdknjilpaaGreat.Own Go.Proofs.YthlmgbdknjilpaaGreat.PAskCodes
set_option linter.unusedVariables false
set_option linter.unusedSimpArgs false

/-- Pairs out of numbers, from i on. -/
def prs (l : List Int) (i : Nat) : Nat → List S31
  | 0 => []
  | m + 1 => ⟨l.getD i 0, l.getD (i + 1) 0⟩ :: prs l (i + 2) m
theorem prs_length (l : List Int) : ∀ (m i : Nat), (prs l i m).length = m
  | 0, _ => rfl
  | m + 1, i => by simp [prs, prs_length l m]
theorem prs_get (l : List Int) : ∀ (m i j : Nat), j < m → (prs l i m).getD j z31 = ⟨l.getD (i + 2 * j) 0, l.getD (i + 2 * j + 1) 0⟩
  | 0, _, _, h => by omega
  | m + 1, i, 0, _ => by simp [prs]
  | m + 1, i, j + 1, h => by
    have := prs_get l m (i + 2) j (by omega)
    simp only [prs, List.getD_cons_succ]
    rw [this]
    simp [show i + 2 + 2 * j = i + 2 * (j + 1) by omega]
theorem rd_nat (l : List Int) (i : Nat) : rd l (i : Int) = l.getD i 0 := by simp [rd]
theorem answer_l0 (x0 : List Int) (a : Int) (b : Bool) (c d : Int) (e : Bool) (hl : x0.length < 1000) : ∀ (m k i : Nat) (acc : List S31), x0.length = i + 2 * m → m < k → acc.length + m < 1000 → ask_Answer.l0 k x0 (i : Int) a b c d acc e = some (a, b, c, d, acc ++ prs x0 i m, e)
  | 0, k + 1, i, acc, h1, h2, h3 => by
    unfold ask_Answer.l0
    rw [if_neg (by omega)]
    simp [prs]
  | m + 1, k + 1, i, acc, h1, h2, h3 => by
    unfold ask_Answer.l0
    have w1 : wrap64 ((i : Int) + 1) = ((i + 1 : Nat) : Int) := by unfold wrap64; omega
    have w2 : wrap64 ((i : Int) + 2) = ((i + 2 : Nat) : Int) := by unfold wrap64; omega
    rw [w1, w2, if_pos (by omega), if_pos (by omega), if_pos (by omega), if_pos (by omega), if_pos (by omega), rd_nat, rd_nat, answer_l0 x0 a b c d e hl m k (i + 2) _ (by omega) (by omega) (by simp; omega)]
    simp [prs]
theorem j0_true (k : Nat) (l : List Int) : ask_Answer.j0 (k + 1) l true = some (0, false, 0, 0, [], false) := by
  unfold ask_Answer.j0
  rfl
theorem j0_false (k : Nat) (l : List Int) (h : 5 ≤ l.length) : ask_Answer.j0 (k + 1) l false = ask_Answer.l0 k l 5 (rd l 0) (rd l 1 == 1) (rd l 2) (rd l 3) [] (rd l 4 == 1) := by
  unfold ask_Answer.j0
  dsimp only
  rw [if_neg (by decide), if_pos (by omega), if_pos (by omega), if_pos (by omega), if_pos (by omega), if_pos (by omega)]
/-- Too few numbers, or an even lot: nothing. -/
theorem answer_none (l : List Int) (h : l.length < 5 ∨ l.length % 2 = 0) : ask_Answer.f 1000 l = some (0, false, 0, 0, [], false) := by
  unfold ask_Answer.f
  by_cases h1 : (l.length : Int) < 5
  · rw [if_pos h1]
    exact j0_true 999 l
  · rw [if_neg h1]
    have h2 : (((l.length : Int) % 2) == 0) = true := by simp; omega
    rw [h2]
    exact j0_true 999 l
/-- Else: these. -/
theorem answer_some (l : List Int) (m : Nat) (h : l.length = 5 + 2 * m) (hm : m < 100) : ask_Answer.f 1000 l = some (rd l 0, rd l 1 == 1, rd l 2, rd l 3, prs l 5 m, rd l 4 == 1) := by
  unfold ask_Answer.f
  have h2 : (((l.length : Int) % 2) == 0) = false := by simp; omega
  rw [if_neg (by omega), h2, j0_false 999 l (by omega)]
  have := answer_l0 l (rd l 0) (rd l 1 == 1) (rd l 2) (rd l 3) (rd l 4 == 1) (by omega) m 999 5 [] (by omega) (by omega) (by simp; omega)
  simpa using this
/-- Two answers without anything are the same. -/
theorem same_none : boscagelaw18_Same.f 2 0 false 0 0 [] false 0 false 0 0 [] false = some true := by rfl
end Go.Proofs.YthlmgbdknjilpaaGreat.Tower
namespace Go.Proofs.YthlmgbdknjilpaaGreat.Tower
open Go Go.RowKit Go.Proofs.YthlmgbdknjilpaaGreatW.PrintWords Go.Proofs.YthlmgbdknjilpaaGreatW.PrintLast Go.Proofs.YthlmgbdknjilpaaGreatW.PrintMore Go.Proofs.YthlmgbdknjilpaaGreat.Own Go.Proofs.YthlmgbdknjilpaaGreat.PAskCodes
set_option linter.unusedVariables false
set_option linter.unusedSimpArgs false

set_option maxHeartbeats 4000000 in
set_option maxRecDepth 100000 in
theorem reads_long (A : Option Addr) (c : Nat) (l : List Int) (w : World) (h60 : 60 < l.length) :
    Calls Tryz.prog 4 #[.slice A l.length c] w fun e w1 => e = .returned (.bool true) ∧ Below w.heap.size w w1 := by
  have d1 : decide ((l.length : Int) > 60) = true := decide_eq_true (by omega)
  have d2 : decide (60 < l.length) = true := decide_eq_true h60
  go_enter Tryz.func4, Tryz.ntmps4
  go_wp2_with (go_at_call 9; refine (awake19 _).mono ?_; rintro e w1 ⟨rfl, hb⟩; have B1 := Aside0.mk hb; clear hb)
  go_ret
  exact ⟨rfl, B1.out⟩
set_option maxHeartbeats 4000000 in
set_option maxRecDepth 100000 in
theorem reads_none (A : Option Addr) (c : Nat) (l : List Int) (w : World) (hr : (Kd.int .i64).C w A l.length l) (hc : l.length ≤ c) (h60 : l.length ≤ 60) (h : l.length < 5 ∨ l.length % 2 = 0) :
    Calls Tryz.prog 4 #[.slice A l.length c] w fun e w1 => e = .returned (.bool true) ∧ Below w.heap.size w w1 := by
  have d1 : decide ((l.length : Int) > 60) = false := decide_eq_false (by omega)
  have d2 : decide (60 < l.length) = false := decide_eq_false (by omega)
  have HR := Aside0.mk hr
  have HF := Aside0.mk (answer_none l h)
  have HC := Aside0.mk hc
  have HH := Aside0.mk h
  have HS := Aside0.mk same_none
  clear hr hc h
  go_enter Tryz.func4, Tryz.ntmps4
  go_upto_region 6 with (first | (go_at_call 9; refine (awake19 _).mono ?_; rintro e w1 ⟨rfl, hb⟩; have B1 := Aside0.mk hb; clear hb) | (go_at_call 11; refine (ask_Answer.calls 1000 A c l 0 false 0 0 [] false _ (Kd.C_below HR.out B1.out) HC.out HF.out).mono ?_; rintro e w2 ⟨v4, rfl, hv, hb2⟩; obtain ⟨A4, c4, rfl⟩ := Kd.R_slice hv; have V2 := Aside0.mk hv; have B2 := Aside0.mk (below_then B1.out B1.out.size hb2); clear hv hb2))
  have HBX := Aside0.mk (blk_new w2 (.cells #[.int .i64 0, .bool false, .int .i64 0, .int .i64 0, .slice A4 0 c4, .bool false] 26))
  have B3 := Aside0.mk (below_alloc B2.out (.cells #[.int .i64 0, .bool false, .int .i64 0, .int .i64 0, .slice A4 0 c4, .bool false] 26))
  have V3 := Aside0.mk (Kd.C_below (Kd.R_reads' V2.out).2.2 (below_alloc (Below.refl _ _) (.cells #[.int .i64 0, .bool false, .int .i64 0, .int .i64 0, .slice A4 0 c4, .bool false] 26)))
  clear B1 B2 V2
  generalize w2.alloc (.cells #[.int .i64 0, .bool false, .int .i64 0, .int .i64 0, .slice A4 0 c4, .bool false] 26) = w3 at HBX B3 V3 ⊢
  generalize w2.heap.size = b3 at HBX ⊢
  have k0 := (blk_cell HBX.out 0).trans (rfl : _ = some (Value.int .i64 0))
  have k1 := (blk_cell HBX.out 1).trans (rfl : _ = some (Value.bool false))
  have k2 := (blk_cell HBX.out 2).trans (rfl : _ = some (Value.int .i64 0))
  have k3 := (blk_cell HBX.out 3).trans (rfl : _ = some (Value.int .i64 0))
  have k4 := (blk_cell HBX.out 4).trans (rfl : _ = some (Value.slice A4 0 c4))
  have k5 := (blk_cell HBX.out 5).trans (rfl : _ = some (Value.bool false))
  by_cases h5 : l.length < 5
  · have d3 : decide ((l.length : Int) < 5) = true := decide_eq_true (by omega)
    have d4 : decide (l.length < 5) = true := decide_eq_true h5
    clear h5
    go_wp2_with (go_at_call 12; refine (boscagelaw18_Same.calls 2 0 false 0 0 A4 c4 [] false 0 false 0 0 none 0 [] false true _ V3.out (Nat.zero_le _) (Kd.R_reads' (Kd.R_nil k31 31 _ 0 (fun _ => True))).2.2 (Nat.zero_le _) HS.out).mono ?_; rintro e w4 ⟨rfl, hb⟩; have B4 := Aside0.mk (below_then B3.out B3.out.size hb); have k5 := (blk_cell (blk_below HBX.out hb) 5).trans (rfl : _ = some (Value.bool false)); clear hb)
    go_ret
    exact ⟨rfl, B4.out⟩
  · have d3 : decide ((l.length : Int) < 5) = false := decide_eq_false (by omega)
    have d4 : decide (l.length < 5) = false := decide_eq_false h5
    have h2 : ((l.length : Int) % 2 == 0) = true := by have := HH.out; simp; omega
    have h3 : (Int.tmod (l.length : Int) 2 == 0) = true := by rw [Int.tmod_eq_emod_of_nonneg (by omega)]; exact h2
    clear h5
    go_wp2_with (go_at_call 12; refine (boscagelaw18_Same.calls 2 0 false 0 0 A4 c4 [] false 0 false 0 0 none 0 [] false true _ V3.out (Nat.zero_le _) (Kd.R_reads' (Kd.R_nil k31 31 _ 0 (fun _ => True))).2.2 (Nat.zero_le _) HS.out).mono ?_; rintro e w4 ⟨rfl, hb⟩; have B4 := Aside0.mk (below_then B3.out B3.out.size hb); have k5 := (blk_cell (blk_below HBX.out hb) 5).trans (rfl : _ = some (Value.bool false)); clear hb)
    go_ret
    exact ⟨rfl, B4.out⟩
set_option maxHeartbeats 4000000 in
set_option maxRecDepth 100000 in
theorem reads_some (A : Option Addr) (c : Nat) (l : List Int) (w : World) (hr : (Kd.int .i64).C w A l.length l) (hc : l.length ≤ c) (m : Nat) (hm : l.length = 5 + 2 * m) (h60 : l.length ≤ 60) :
    Calls Tryz.prog 4 #[.slice A l.length c] w fun e w1 => e = .returned (.bool true) ∧ Below w.heap.size w w1 := by
  have HR := Aside0.mk hr
  have HF := Aside0.mk (answer_some l m hm (by omega))
  have HC := Aside0.mk hc
  have HM := Aside0.mk hm
  have HL := Aside0.mk (prs_length l m 5)
  obtain ⟨ad, rfl⟩ : ∃ ad, A = some ad := by
    obtain ⟨ad, h, _⟩ := hr.2.2 (by omega)
    exact ⟨ad, h⟩
  clear hr hc
  rw [hm]
  have d1 : decide (((5 + 2 * m : Nat) : Int) > 60) = false := decide_eq_false (by omega)
  have d2 : decide (60 < 5 + 2 * m) = false := decide_eq_false (by omega)
  go_enter Tryz.func4, Tryz.ntmps4
  go_upto_region 6 with (first | (go_at_call 9; refine (awake19 _).mono ?_; rintro e w1 ⟨rfl, hb⟩; have B1 := Aside0.mk hb; clear hb) | (go_at_call 11; rw [← HM.out]; refine (ask_Answer.calls 1000 (some ad) c l _ _ _ _ _ _ _ (Kd.C_below HR.out B1.out) HC.out HF.out).mono ?_; rintro e w2 ⟨v4, rfl, hv, hb2⟩; obtain ⟨A4, c4, rfl⟩ := Kd.R_slice hv; have V2 := Aside0.mk hv; have B2 := Aside0.mk (below_then B1.out B1.out.size hb2); clear hv hb2; rw [HL.out]))
  have HBX := Aside0.mk (blk_new w2 (.cells #[.int .i64 (rd l 0), .bool (rd l 1 == 1), .int .i64 (rd l 2), .int .i64 (rd l 3), .slice A4 m c4, .bool (rd l 4 == 1)] 26))
  have B3 := Aside0.mk (below_alloc B2.out (.cells #[.int .i64 (rd l 0), .bool (rd l 1 == 1), .int .i64 (rd l 2), .int .i64 (rd l 3), .slice A4 m c4, .bool (rd l 4 == 1)] 26))
  have V3 := Aside0.mk (Kd.C_below (Kd.R_reads' V2.out).2.2 (below_alloc (Below.refl _ _) (.cells #[.int .i64 (rd l 0), .bool (rd l 1 == 1), .int .i64 (rd l 2), .int .i64 (rd l 3), .slice A4 m c4, .bool (rd l 4 == 1)] 26)))
  clear B1 B2 V2
  generalize w2.alloc (.cells #[.int .i64 (rd l 0), .bool (rd l 1 == 1), .int .i64 (rd l 2), .int .i64 (rd l 3), .slice A4 m c4, .bool (rd l 4 == 1)] 26) = w3 at HBX B3 V3 ⊢
  generalize w2.heap.size = b3 at HBX ⊢
  have R3 := Aside0.mk (Kd.C_below HR.out B3.out)
  have f0 : w3.cell? ad = some (.int .i64 (rd l 0)) := by
    have h := Kd.foot_int R3.out 0 (by omega) (by omega)
    rwa [show Int.toNat 0 = 0 from rfl, show ad.add 0 = ad by simp [Addr.add]] at h
  have f1 : w3.cell? ⟨ad.block, ad.off + 1, none⟩ = some (.int .i64 (rd l 1)) := by
    have h := Kd.foot_int R3.out 1 (by omega) (by omega)
    rwa [show Int.toNat 1 = 1 from rfl, show ad.add 1 = ⟨ad.block, ad.off + 1, none⟩ by simp [Addr.add]] at h
  have f2 : w3.cell? ⟨ad.block, ad.off + 2, none⟩ = some (.int .i64 (rd l 2)) := by
    have h := Kd.foot_int R3.out 2 (by omega) (by omega)
    rwa [show Int.toNat 2 = 2 from rfl, show ad.add 2 = ⟨ad.block, ad.off + 2, none⟩ by simp [Addr.add]] at h
  have f3 : w3.cell? ⟨ad.block, ad.off + 3, none⟩ = some (.int .i64 (rd l 3)) := by
    have h := Kd.foot_int R3.out 3 (by omega) (by omega)
    rwa [show Int.toNat 3 = 3 from rfl, show ad.add 3 = ⟨ad.block, ad.off + 3, none⟩ by simp [Addr.add]] at h
  have f4 : w3.cell? ⟨ad.block, ad.off + 4, none⟩ = some (.int .i64 (rd l 4)) := by
    have h := Kd.foot_int R3.out 4 (by omega) (by omega)
    rwa [show Int.toNat 4 = 4 from rfl, show ad.add 4 = ⟨ad.block, ad.off + 4, none⟩ by simp [Addr.add]] at h
  have k0 := (blk_cell HBX.out 0).trans (rfl : _ = some (Value.int .i64 (rd l 0)))
  have k1 := (blk_cell HBX.out 1).trans (rfl : _ = some (Value.bool (rd l 1 == 1)))
  have k2 := (blk_cell HBX.out 2).trans (rfl : _ = some (Value.int .i64 (rd l 2)))
  have k3 := (blk_cell HBX.out 3).trans (rfl : _ = some (Value.int .i64 (rd l 3)))
  have k4 := (blk_cell HBX.out 4).trans (rfl : _ = some (Value.slice A4 m c4))
  have k5 := (blk_cell HBX.out 5).trans (rfl : _ = some (Value.bool (rd l 4 == 1)))
  have d3 : decide (((5 + 2 * m : Nat) : Int) < 5) = false := decide_eq_false (by omega)
  have d4 : decide (5 + 2 * m < 5) = false := decide_eq_false (by omega)
  have h2 : (((5 + 2 * m : Nat) : Int) % 2 == 0) = false := by
    simp
  have h3 : (Int.tmod ((5 + 2 * m : Nat) : Int) 2 == 0) = false := by rw [Int.tmod_eq_emod_of_nonneg (by omega)]; exact h2
  go_upto_region 8 with fail
  have q1 : wrap64 (((5 + 2 * m : Nat) : Int) - 5) = ((2 * m : Nat) : Int) := by unfold wrap64; omega
  have q2 : wrap64 ((5 : Int) + 2 * (m : Int) - 5) = 2 * (m : Int) := by unfold wrap64; omega
  have q3 : Int.tdiv (2 * (m : Int)) 2 = (m : Int) := by rw [Int.tdiv_eq_ediv_of_nonneg (by omega)]; omega
  have q4 : (2 * (m : Int)) / 2 = (m : Int) := by omega
  have q5 : ((m : Int) != (5 + 2 * (m : Int) - 5) / 2) = false := by rw [bne_eq_false_iff_eq]; omega
  have b5 : (0 : Int) < 5 + 2 * (m : Int) := by omega
  have b6 : (1 : Int) < 5 + 2 * (m : Int) := by omega
  have b7 : (2 : Int) < 5 + 2 * (m : Int) := by omega
  have b8 : (3 : Int) < 5 + 2 * (m : Int) := by omega
  have b9 : (4 : Int) < 5 + 2 * (m : Int) := by omega
  go_quiet (fail)
  rename_i nq
  have B4 := Aside0.mk (pw_below_drewN B3.out nq)
  have V4 := Aside0.mk (Kd.C_below V3.out (pw_below_drewN (Below.refl _ _) nq))
  have R4 := Aside0.mk (Kd.C_below R3.out (pw_below_drewN (Below.refl _ _) nq))
  have X4 := Aside0.mk (blk_drewN HBX.out nq)
  clear f0 f1 f2 f3 f4 k0 k1 k2 k3 k4 k5 B3 V3 R3 HBX q1 q2 q3 q4 q5 b5 b6 b7 b8 b9 h2 h3 d3 d4 HF
  generalize w3.drewN nq = w4 at B4 V4 R4 X4 ⊢
  have k4 := (blk_cell X4.out 4).trans (rfl : _ = some (Value.slice A4 m c4))
  go_upto_region 11 with fail
  clear k4
  go_wp2_with fail
  go_loopw [83] (fun i wr => ∃ k : Nat, i = .int .i64 (k : Int) ∧ k ≤ m ∧ Aside0 (Below w4.heap.size w4 wr)) (fun i _ => m - (intOf i).toNat)
  case atStart => exact ⟨0, rfl, Nat.zero_le _, ⟨Below.refl _ _⟩⟩
  case round =>
    obtain ⟨k, rfl, hkm, HW⟩ := hrel
    by_cases hlt : k < m
    · have d5 : decide ((k : Int) < (m : Int)) = true := decide_eq_true (by omega)
      have d6 : decide (k < m) = true := decide_eq_true hlt
      obtain ⟨ad4, rfl, _, _⟩ := at_T31 V4.out (k : Int) (by omega) (by rw [HL.out]; omega)
      have V5 := Aside0.mk (Kd.C_below V4.out HW.out)
      have R5 := Aside0.mk (Kd.C_below R4.out HW.out)
      obtain ⟨ad5, e5, p0, p1⟩ := at_T31 V5.out (k : Int) (by omega) (by rw [HL.out]; omega)
      injection e5 with e5
      subst e5
      have hpg := prs_get l m 5 k hlt
      have hrk : rd_T31 (prs l 5 m) (k : Int) = ⟨l.getD (5 + 2 * k) 0, l.getD (5 + 2 * k + 1) 0⟩ := by
        unfold rd_T31
        rw [Int.toNat_natCast]
        exact hpg
      rw [hrk, Int.toNat_natCast] at p0 p1
      simp only at p0 p1
      have HLT := Aside0.mk hlt
      have r0 : rd l (5 + 2 * (k : Int)) = l.getD (5 + 2 * k) 0 := by unfold rd; congr 1
      have r1 : rd l (6 + 2 * (k : Int)) = l.getD (5 + 2 * k + 1) 0 := by unfold rd; rw [show (6 + 2 * (k : Int)).toNat = 5 + 2 * k + 1 by omega]
      generalize l.getD (5 + 2 * k) 0 = x at p0 r0
      generalize l.getD (5 + 2 * k + 1) 0 = y at p1 r1
      have HX0 := Aside0.mk r0
      have HX1 := Aside0.mk r1
      clear hpg hrk hlt r0 r1
      have b4 : (0 : Int) ≤ (k : Int) := by omega
      have b5 : (k : Int) < (m : Int) := by have := HLT.out; omega
      go_upto_region 13 with fail
      have B6 := below_alloc (Below.refl wr.heap.size wr) (.cells #[.int .i64 x, .int .i64 y] 31)
      have R6 := Kd.C_below R5.out B6
      have f0 := Kd.foot_int R6 (5 + 2 * (k : Int)) (by omega) (by omega)
      have f1 := Kd.foot_int R6 (6 + 2 * (k : Int)) (by omega) (by omega)
      rw [HX0.out] at f0
      rw [HX1.out] at f1
      have HW6 := Aside0.mk (below_then HW.out HW.out.size B6)
      have hbx := blk_new wr (.cells #[.int .i64 x, .int .i64 y] 31)
      clear B6 R6 p0 p1
      generalize wr.alloc (.cells #[.int .i64 x, .int .i64 y] 31) = w6 at f0 f1 HW6 hbx ⊢
      generalize wr.heap.size = b6 at hbx ⊢
      have k0 := (blk_cell hbx 0).trans (rfl : _ = some (Value.int .i64 x))
      have k1 := (blk_cell hbx 1).trans (rfl : _ = some (Value.int .i64 y))
      clear hbx
      have v5 : IntKind.i64.wrap (2 * (k : Int)) = 2 * (k : Int) := by rw [i64_w]; unfold wrap64; omega
      have v6 : IntKind.i64.wrap (5 + 2 * (k : Int)) = 5 + 2 * (k : Int) := by rw [i64_w]; unfold wrap64; omega
      have v7 : IntKind.i64.wrap (6 + 2 * (k : Int)) = 6 + 2 * (k : Int) := by rw [i64_w]; unfold wrap64; omega
      have g0 : (0 : Int) ≤ 5 + 2 * (k : Int) := by omega
      have g1 : (0 : Int) ≤ 6 + 2 * (k : Int) := by omega
      have g2 : 5 + 2 * (k : Int) < 5 + 2 * (m : Int) := by have := HLT.out; omega
      have g3 : 6 + 2 * (k : Int) < 5 + 2 * (m : Int) := by have := HLT.out; omega
      have HWN := Aside0.mk (fun n => pw_below_drewN HW6.out n)
      go_quiet (fail)
      go_wp2_with fail
      go_round
      case rel => exact ⟨k + 1, by go_num, by have := HLT.out; omega, ⟨HWN.out _⟩⟩
      case measure => have := HLT.out; simp [intOf]; omega
    · have d5 : decide ((k : Int) < (m : Int)) = false := decide_eq_false (by omega)
      have d6 : decide (k < m) = false := decide_eq_false hlt
      clear hlt
      go_wp2_with fail
      go_ret
      exact ⟨rfl, below_then B4.out B4.out.size HW.out⟩
theorem reads_calls (A : Option Addr) (c : Nat) (l : List Int) (w : World) (hr : (Kd.int .i64).C w A l.length l) (hc : l.length ≤ c) (hw : ∀ n ∈ l, (Lit.int .i64 n).wf = true) :
    Calls Tryz.prog 4 #[.slice A l.length c] w fun e w1 => e = .returned (.bool true) ∧ Below w.heap.size w w1 := by
  by_cases h60 : l.length ≤ 60
  · by_cases h : l.length < 5 ∨ l.length % 2 = 0
    · exact reads_none A c l w hr hc h60 h
    · exact reads_some A c l w hr hc ((l.length - 5) / 2) (by omega) h60
  · exact reads_long A c l w (by omega)
end Go.Proofs.YthlmgbdknjilpaaGreat.Tower
namespace Go.Proofs.YthlmgbdknjilpaaGreat.Tower
open Go Go.RowKit Go.Proofs.YthlmgbdknjilpaaGreatW.PrintWords Go.Proofs.YthlmgbdknjilpaaGreatW.PrintLast Go.Proofs.YthlmgbdknjilpaaGreatW.PrintMore Go.Proofs.YthlmgbdknjilpaaGreat.Own Go.Proofs.YthlmgbdknjilpaaGreat.PAskCodes
set_option linter.unusedVariables false
set_option linter.unusedSimpArgs false

theorem codeOf_length (a : Ans) : (codeOf a).length = 5 + 2 * a.pairs.length := by
  have : ∀ xs : List (Int × Int), (xs.flatMap fun q => [q.1, q.2]).length = 2 * xs.length := fun xs => by
    induction xs with
    | nil => rfl
    | cons q xs ih => rw [List.flatMap_cons, List.length_append, ih]; simp only [List.length_cons, List.length_nil]; omega
  have := this a.pairs
  unfold codeOf
  rw [List.length_append, this]
  rfl
theorem flat_get (xs : List (Int × Int)) : ∀ k, k < xs.length → (xs.flatMap fun q => [q.1, q.2]).getD (2 * k) 0 = (xs.getD k (0, 0)).1 ∧ (xs.flatMap fun q => [q.1, q.2]).getD (2 * k + 1) 0 = (xs.getD k (0, 0)).2 := by
  induction xs with
  | nil => intro k h; simp at h
  | cons q xs ih =>
    intro k h
    cases k with
    | zero => simp [List.flatMap_cons]
    | succ k =>
      have := ih k (by simpa using h)
      simp only [List.flatMap_cons, List.cons_append, List.nil_append, List.getD_cons_succ, show 2 * (k + 1) = 2 * k + 1 + 1 by omega, show 2 * k + 1 + 1 + 1 = (2 * k + 1) + 1 + 1 by omega]
      exact this
theorem codeOf_get (a : Ans) (k : Nat) (h : k < a.pairs.length) : (codeOf a).getD (5 + 2 * k) 0 = (a.pairs.getD k (0, 0)).1 ∧ (codeOf a).getD (6 + 2 * k) 0 = (a.pairs.getD k (0, 0)).2 := by
  have := flat_get a.pairs k h
  have e1 : 5 + 2 * k = 2 * k + 1 + 1 + 1 + 1 + 1 := by omega
  have e2 : 6 + 2 * k = (2 * k + 1) + 1 + 1 + 1 + 1 + 1 := by omega
  simp only [codeOf, e1, e2, List.cons_append, List.nil_append, List.getD_cons_succ]
  exact this
theorem b01_one (b : Bool) : (b01 b == 1) = b := by cases b <;> rfl
theorem prs_code (a : Ans) : prs (codeOf a) 5 a.pairs.length = a.pairs.map toS := by
  refine List.ext_getElem? fun j => ?_
  by_cases hj : j < a.pairs.length
  · have h1 := prs_get (codeOf a) a.pairs.length 5 j hj
    have h2 := codeOf_get a j hj
    rw [h2.1, show 5 + 2 * j + 1 = 6 + 2 * j by omega, h2.2, List.getD_eq_getElem?_getD, List.getElem?_eq_getElem (by rw [prs_length]; exact hj)] at h1
    rw [List.getElem?_eq_getElem (by rw [prs_length]; exact hj), List.getElem?_map, List.getElem?_eq_getElem hj]
    simp only [Option.getD_some] at h1
    rw [h1]
    simp [toS, List.getD_eq_getElem?_getD, hj]
  · rw [List.getElem?_eq_none (by rw [prs_length]; omega), List.getElem?_eq_none (by simp; omega)]
theorem answer_code (a : Ans) (hm : a.pairs.length < 100) : ask_Answer.f 1000 (codeOf a) = some (a.err, a.found, a.key, a.value, a.pairs.map toS, a.short) := by
  rw [answer_some (codeOf a) a.pairs.length (codeOf_length a) hm, prs_code]
  simp [rd, codeOf, b01_one]
theorem same02_self (l : List S31) (hl : l.length < 1000000) : ∀ (d k i : Nat), i + d = l.length → d < k → boscagelaw02_Same.l0 k l l (l.length : Int) (i : Int) = some true
  | 0, k + 1, i, h, hk => by
    unfold boscagelaw02_Same.l0
    rw [if_neg (by omega)]
  | d + 1, k + 1, i, h, hk => by
    unfold boscagelaw02_Same.l0
    rw [if_pos (by omega), if_pos (by omega), if_pos (by omega), if_pos (by omega), if_neg (by simp)]
    have w1 : wrap64 ((i : Int) + 1) = ((i + 1 : Nat) : Int) := by unfold wrap64; omega
    rw [w1]
    exact same02_self l hl d k (i + 1) (by omega) (by omega)
theorem same18_self (e : Int) (f : Bool) (k v : Int) (l : List S31) (s : Bool) (hl : l.length < 1000) : boscagelaw18_Same.f 1000 e f k v l s e f k v l s = some true := by
  unfold boscagelaw18_Same.f boscagelaw02_Same.f
  rw [if_pos rfl, if_pos (by simp), if_pos rfl, if_pos rfl, if_pos rfl]
  have := same02_self l (by omega) l.length 1000 0 (by omega) hl
  rw [Int.natCast_zero] at this
  rw [this]
  rfl
theorem same_calls (a : Ans) (A A8 : Option Addr) (m c c8 : Nat) (w : World) (hm : m = a.pairs.length) (hl : m ≤ 40) (h1 : kPair.C w A m a.pairs) (h2 : m ≤ c) (h3 : Kd.C k31 w A8 m (a.pairs.map toS)) (h4 : m ≤ c8) :
    Calls Tryz.prog 12 #[.agg #[.int .i64 a.err, .bool a.found, .int .i64 a.key, .int .i64 a.value, .slice A m c, .bool a.short], .agg #[.int .i64 a.err, .bool a.found, .int .i64 a.key, .int .i64 a.value, .slice A8 m c8, .bool a.short]] w fun e w' => e = .returned (.bool true) ∧ Below w.heap.size w w' := by
  have hml : (a.pairs.map toS).length = m := by rw [List.length_map, hm]
  have h := boscagelaw18_Same.calls 1000 a.err a.found a.key a.value A c (a.pairs.map toS) a.short a.err a.found a.key a.value A8 c8 (a.pairs.map toS) a.short true w (by rw [hml]; exact pairs_C h1) (by omega) (by rw [hml]; exact h3) (by omega) (same18_self _ _ _ _ _ _ (by omega))
  rw [hml] at h
  exact h
def ansV (a : Ans) (A : Option Addr) (c : Nat) : Value := .agg #[.int .i64 a.err, .bool a.found, .int .i64 a.key, .int .i64 a.value, .slice A a.pairs.length c, .bool a.short]

set_option maxHeartbeats 4000000 in
set_option maxRecDepth 100000 in
theorem codes_long (a : Ans) (A : Option Addr) (c : Nat) (w : World) (h40 : 40 < a.pairs.length) :
    Calls Tryz.prog 3 #[ansV a A c] w fun e w1 => e = .returned (.bool true) ∧ Below w.heap.size w w1 := by
  have d1 : decide ((a.pairs.length : Int) > 40) = true := decide_eq_true (by omega)
  have d2 : decide (40 < a.pairs.length) = true := decide_eq_true h40
  have HBX := Aside0.mk (blk_new w (.cells #[.int .i64 a.err, .bool a.found, .int .i64 a.key, .int .i64 a.value, .slice A a.pairs.length c, .bool a.short] 26))
  have HB := Aside0.mk (below_alloc (Below.refl w.heap.size w) (.cells #[.int .i64 a.err, .bool a.found, .int .i64 a.key, .int .i64 a.value, .slice A a.pairs.length c, .bool a.short] 26))
  unfold ansV
  go_enter Tryz.func3, Tryz.ntmps3
  go_wp2_with (go_at_call 9; refine (awake19 _).mono ?_; rintro e w1 ⟨rfl, hb⟩; have B1 := Aside0.mk (below_then HB.out HB.out.size hb); have k4 := (blk_cell (blk_below HBX.out hb) 4).trans (rfl : _ = some (Value.slice A a.pairs.length c)); clear hb)
  go_ret
  exact ⟨rfl, B1.out⟩
set_option maxHeartbeats 4000000 in
set_option maxRecDepth 100000 in
theorem codes_some (a : Ans) (A : Option Addr) (c : Nat) (w : World) (hC : kPair.C w A a.pairs.length a.pairs) (hc : a.pairs.length ≤ c) (h40 : a.pairs.length ≤ 40) :
    Calls Tryz.prog 3 #[ansV a A c] w fun e w1 => e = .returned (.bool true) ∧ Below w.heap.size w w1 := by
  have d1 : decide ((a.pairs.length : Int) > 40) = false := decide_eq_false (by omega)
  have d2 : decide (40 < a.pairs.length) = false := decide_eq_false (by omega)
  have HBX := Aside0.mk (blk_new w (.cells #[.int .i64 a.err, .bool a.found, .int .i64 a.key, .int .i64 a.value, .slice A a.pairs.length c, .bool a.short] 26))
  have HB := Aside0.mk (below_alloc (Below.refl w.heap.size w) (.cells #[.int .i64 a.err, .bool a.found, .int .i64 a.key, .int .i64 a.value, .slice A a.pairs.length c, .bool a.short] 26))
  have HC := Aside0.mk hC
  have HL := Aside0.mk hc
  have H4 := Aside0.mk h40
  have HCL := Aside0.mk (codeOf_length a)
  unfold ansV
  clear hC hc
  go_enter Tryz.func3, Tryz.ntmps3
  go_upto_region 1 with fail
  generalize w.alloc (.cells #[.int .i64 a.err, .bool a.found, .int .i64 a.key, .int .i64 a.value, .slice A a.pairs.length c, .bool a.short] 26) = w0 at HBX HB ⊢
  go_upto_region 5 with (go_at_call 9; refine (awake19 _).mono ?_; rintro e w1 ⟨rfl, hb⟩; have B1 := Aside0.mk (below_then HB.out HB.out.size hb); have X1 := Aside0.mk (blk_below HBX.out hb); have k4 := (blk_cell X1.out 4).trans (rfl : _ = some (Value.slice A a.pairs.length c)); clear hb HB HBX)
  have k0 := (blk_cell X1.out 0).trans (rfl : _ = some (Value.int .i64 a.err))
  have k1 := (blk_cell X1.out 1).trans (rfl : _ = some (Value.bool a.found))
  have k2 := (blk_cell X1.out 2).trans (rfl : _ = some (Value.int .i64 a.key))
  have k3 := (blk_cell X1.out 3).trans (rfl : _ = some (Value.int .i64 a.value))
  have k5 := (blk_cell X1.out 5).trans (rfl : _ = some (Value.bool a.short))
  go_upto_region 6 with (go_at_call 10; refine (code_calls a A c _ (Kd.C_below HC.out B1.out) HL.out (by have := H4.out; omega)).mono ?_; rintro e w2 ⟨v7, rfl, hv, hb⟩; obtain ⟨A7, c7, rfl⟩ := Kd.R_slice hv; have V2 := Aside0.mk hv; have B2 := Aside0.mk (below_then B1.out B1.out.size hb); have X2 := Aside0.mk (blk_below X1.out hb); clear hv hb B1 X1 k0 k1 k2 k3 k4 k5)
  rw [HCL.out] at V2 ⊢
  obtain ⟨ad, rfl⟩ : ∃ ad, A7 = some ad := by
    obtain ⟨ad, h, _⟩ := (Kd.R_reads' V2.out).2.2.2.2 (by have := HCL.out; omega)
    exact ⟨ad, h⟩
  have R3 := Aside0.mk (Kd.R_reads' V2.out)
  clear V2
  obtain ⟨m, hm⟩ : ∃ m, m = a.pairs.length := ⟨_, rfl⟩
  obtain ⟨l, hl⟩ : ∃ l, l = codeOf a := ⟨_, rfl⟩
  have HLL := Aside0.mk hl
  have HMM := Aside0.mk hm
  rw [← hm] at R3 d1 d2 h40 ⊢
  rw [← hl] at R3
  have hll : l.length = 5 + 2 * m := by rw [hl, hm]; exact HCL.out
  have r0 : rd l 0 = a.err := by rw [hl]; rfl
  have r1 : rd l 1 = b01 a.found := by rw [hl]; rfl
  have r2 : rd l 2 = a.key := by rw [hl]; rfl
  have r3 : rd l 3 = a.value := by rw [hl]; rfl
  have r4 : rd l 4 = b01 a.short := by rw [hl]; rfl
  have f0 : w2.cell? ad = some (.int .i64 a.err) := by
    have h := Kd.foot_int R3.out.2.2 0 (by omega) (by omega)
    rwa [show Int.toNat 0 = 0 from rfl, show ad.add 0 = ad by simp [Addr.add], r0] at h
  have f1 : w2.cell? ⟨ad.block, ad.off + 1, none⟩ = some (.int .i64 (b01 a.found)) := by
    have h := Kd.foot_int R3.out.2.2 1 (by omega) (by omega)
    rwa [show Int.toNat 1 = 1 from rfl, show ad.add 1 = ⟨ad.block, ad.off + 1, none⟩ by simp [Addr.add], r1] at h
  have f2 : w2.cell? ⟨ad.block, ad.off + 2, none⟩ = some (.int .i64 a.key) := by
    have h := Kd.foot_int R3.out.2.2 2 (by omega) (by omega)
    rwa [show Int.toNat 2 = 2 from rfl, show ad.add 2 = ⟨ad.block, ad.off + 2, none⟩ by simp [Addr.add], r2] at h
  have f3 : w2.cell? ⟨ad.block, ad.off + 3, none⟩ = some (.int .i64 a.value) := by
    have h := Kd.foot_int R3.out.2.2 3 (by omega) (by omega)
    rwa [show Int.toNat 3 = 3 from rfl, show ad.add 3 = ⟨ad.block, ad.off + 3, none⟩ by simp [Addr.add], r3] at h
  have f4 : w2.cell? ⟨ad.block, ad.off + 4, none⟩ = some (.int .i64 (b01 a.short)) := by
    have h := Kd.foot_int R3.out.2.2 4 (by omega) (by omega)
    rwa [show Int.toNat 4 = 4 from rfl, show ad.add 4 = ⟨ad.block, ad.off + 4, none⟩ by simp [Addr.add], r4] at h
  have k0 := (blk_cell X2.out 0).trans (rfl : _ = some (Value.int .i64 a.err))
  have k1 := (blk_cell X2.out 1).trans (rfl : _ = some (Value.bool a.found))
  have k2 := (blk_cell X2.out 2).trans (rfl : _ = some (Value.int .i64 a.key))
  have k3 := (blk_cell X2.out 3).trans (rfl : _ = some (Value.int .i64 a.value))
  have k4 := (blk_cell X2.out 4).trans (rfl : _ = some (Value.slice A a.pairs.length c))
  have k5 := (blk_cell X2.out 5).trans (rfl : _ = some (Value.bool a.short))
  rw [← hm] at k4
  have hbf := b01_one a.found
  have hbs := b01_one a.short
  have hf0 : decide (b01 a.found < 0) = false := by cases a.found <;> rfl
  have hf1 : decide (b01 a.found > 1) = false := by cases a.found <;> rfl
  have hf2 : decide (1 < b01 a.found) = false := hf1
  have hs0 : decide (b01 a.short < 0) = false := by cases a.short <;> rfl
  have hs1 : decide (b01 a.short > 1) = false := by cases a.short <;> rfl
  have hs2 : decide (1 < b01 a.short) = false := hs1
  have q1 : IntKind.i64.wrap (2 * (m : Int)) = 2 * (m : Int) := by rw [i64_w]; unfold wrap64; omega
  have q2 : IntKind.i64.wrap (5 + 2 * (m : Int)) = 5 + 2 * (m : Int) := by rw [i64_w]; unfold wrap64; omega
  have q3 : (5 + 2 * (m : Int) != 5 + 2 * (m : Int)) = false := by simp
  have b5 : (0 : Int) < 5 + 2 * (m : Int) := by omega
  have b6 : (1 : Int) < 5 + 2 * (m : Int) := by omega
  have b7 : (2 : Int) < 5 + 2 * (m : Int) := by omega
  have b8 : (3 : Int) < 5 + 2 * (m : Int) := by omega
  have b9 : (4 : Int) < 5 + 2 * (m : Int) := by omega
  have HLN := Aside0.mk hll
  clear hm hl hll r0 r1 r2 r3 r4
  go_quiet (fail)
  rename_i nq
  have B4 := Aside0.mk (pw_below_drewN B2.out nq)
  have R4 := Aside0.mk (Kd.C_below R3.out.2.2 (pw_below_drewN (Below.refl _ _) nq))
  have X4 := Aside0.mk (blk_drewN X2.out nq)
  have HCP := Aside0.mk R3.out.2.1
  have C4 := Aside0.mk (Kd.C_below HC.out (pw_below_drewN B2.out nq))
  clear f0 f1 f2 f3 f4 k0 k1 k2 k3 k4 k5 B2 R3 X2 q1 q2 q3 b5 b6 b7 b8 b9 hbf hbs hf0 hf1 hf2 hs0 hs1 hs2 d1 d2 h40 HC
  generalize w2.drewN nq = w4 at B4 R4 X4 C4 ⊢
  have k4 := (blk_cell X4.out 4).trans (rfl : _ = some (Value.slice A a.pairs.length c))
  rw [← HMM.out] at k4 C4
  have hm40 : m ≤ 40 := by have := H4.out; have := HMM.out; omega
  go_upto_region 9 with fail
  clear k4
  go_wp2_with fail
  go_loopw [92] (fun i wr => ∃ k : Nat, i = .int .i64 (k : Int) ∧ k ≤ m ∧ Aside0 (Below w4.heap.size w4 wr)) (fun i _ => m - (intOf i).toNat)
  case atStart => exact ⟨0, rfl, Nat.zero_le _, ⟨Below.refl _ _⟩⟩
  case round =>
    obtain ⟨k, rfl, hkm, HW⟩ := hrel
    by_cases hlt : k < m
    · have d5 : decide ((k : Int) < (m : Int)) = true := decide_eq_true (by omega)
      have d6 : decide (k < m) = true := decide_eq_true hlt
      obtain ⟨ad4, rfl, _, _⟩ := at_pair C4.out (k : Int) (by omega) (by omega)
      have C5 := Aside0.mk (Kd.C_below C4.out HW.out)
      have R5 := Aside0.mk (Kd.C_below R4.out HW.out)
      obtain ⟨ad5, e5, p0, p1⟩ := at_pair C5.out (k : Int) (by omega) (by omega)
      injection e5 with e5
      subst e5
      rw [Int.toNat_natCast] at p0 p1
      have hcg := codeOf_get a k (by rw [← HMM.out]; exact hlt)
      rw [← HLL.out] at hcg
      have HLT := Aside0.mk hlt
      have r0 : rd l (5 + 2 * (k : Int)) = (a.pairs.getD k (0, 0)).1 := by rw [← hcg.1]; unfold rd; congr 1
      have r1 : rd l (6 + 2 * (k : Int)) = (a.pairs.getD k (0, 0)).2 := by rw [← hcg.2]; unfold rd; congr 1
      generalize (a.pairs.getD k (0, 0)).1 = x at p0 r0
      generalize (a.pairs.getD k (0, 0)).2 = y at p1 r1
      have HX0 := Aside0.mk r0
      have HX1 := Aside0.mk r1
      clear hcg hlt r0 r1
      have b4 : (0 : Int) ≤ (k : Int) := by omega
      have b5 : (k : Int) < (m : Int) := by have := HLT.out; omega
      go_upto_region 11 with fail
      have B6 := below_alloc (Below.refl wr.heap.size wr) (.cells #[.int .i64 x, .int .i64 y] 31)
      have R6 := Kd.C_below R5.out B6
      have f0 := Kd.foot_int R6 (5 + 2 * (k : Int)) (by omega) (by have := HLN.out; omega)
      have f1 := Kd.foot_int R6 (6 + 2 * (k : Int)) (by omega) (by have := HLN.out; omega)
      rw [HX0.out] at f0
      rw [HX1.out] at f1
      have HW6 := Aside0.mk (below_then HW.out HW.out.size B6)
      have hbx := blk_new wr (.cells #[.int .i64 x, .int .i64 y] 31)
      clear B6 R6 p0 p1
      generalize wr.alloc (.cells #[.int .i64 x, .int .i64 y] 31) = w6 at f0 f1 HW6 hbx ⊢
      generalize wr.heap.size = b6 at hbx ⊢
      have k0 := (blk_cell hbx 0).trans (rfl : _ = some (Value.int .i64 x))
      have k1 := (blk_cell hbx 1).trans (rfl : _ = some (Value.int .i64 y))
      clear hbx
      have v5 : IntKind.i64.wrap (2 * (k : Int)) = 2 * (k : Int) := by rw [i64_w]; unfold wrap64; omega
      have v6 : IntKind.i64.wrap (5 + 2 * (k : Int)) = 5 + 2 * (k : Int) := by rw [i64_w]; unfold wrap64; omega
      have v7 : IntKind.i64.wrap (6 + 2 * (k : Int)) = 6 + 2 * (k : Int) := by rw [i64_w]; unfold wrap64; omega
      have g0 : (0 : Int) ≤ 5 + 2 * (k : Int) := by omega
      have g1 : (0 : Int) ≤ 6 + 2 * (k : Int) := by omega
      have g2 : 5 + 2 * (k : Int) < 5 + 2 * (m : Int) := by have := HLT.out; omega
      have g3 : 6 + 2 * (k : Int) < 5 + 2 * (m : Int) := by have := HLT.out; omega
      have HWN := Aside0.mk (fun n => pw_below_drewN HW6.out n)
      go_quiet (fail)
      go_wp2_with fail
      go_round
      case rel => exact ⟨k + 1, by go_num, by have := HLT.out; omega, ⟨HWN.out _⟩⟩
      case measure => have := HLT.out; simp [intOf]; omega
    · have d5 : decide ((k : Int) < (m : Int)) = false := decide_eq_false (by omega)
      have d6 : decide (k < m) = false := decide_eq_false hlt
      clear hlt
      go_upto_region 15 with (go_at_call 11; rw [← HLN.out]; refine (ask_Answer.calls 1000 (some ad) c7 l _ _ _ _ _ _ _ (Kd.C_below R4.out HW.out) (by rw [HLN.out]; exact HCP.out) (by rw [HLL.out]; exact answer_code a (by have := H4.out; omega))).mono ?_; rintro e w5 ⟨v8, rfl, hv, hb⟩; obtain ⟨A8, c8, rfl⟩ := Kd.R_slice hv; have V5 := Aside0.mk (Kd.R_reads' hv); have B5 := Aside0.mk (below_then HW.out HW.out.size hb); have X5 := Aside0.mk (blk_below (blk_below X4.out HW.out) hb); have C5 := Aside0.mk (Kd.C_below (Kd.C_below C4.out HW.out) hb); clear hv hb)
      have HBX := Aside0.mk (blk_new w5 (.cells #[.int .i64 a.err, .bool a.found, .int .i64 a.key, .int .i64 a.value, .slice A8 m c8, .bool a.short] 26))
      have Y5 := Aside0.mk (below_alloc (Below.refl w5.heap.size w5) (.cells #[.int .i64 a.err, .bool a.found, .int .i64 a.key, .int .i64 a.value, .slice A8 m c8, .bool a.short] 26))
      have hml : (a.pairs.map toS).length = m := by rw [List.length_map, HMM.out]
      rw [hml] at V5
      rw [← HMM.out]
      generalize w5.alloc (.cells #[.int .i64 a.err, .bool a.found, .int .i64 a.key, .int .i64 a.value, .slice A8 m c8, .bool a.short] 26) = w6 at HBX Y5 ⊢
      generalize w5.heap.size = b6 at HBX ⊢
      have X6 := Aside0.mk (blk_below X5.out Y5.out)
      rw [← HMM.out] at X6
      have C6 := Aside0.mk (Kd.C_below C5.out Y5.out)
      have V6 := Aside0.mk (Kd.C_below V5.out.2.2 Y5.out)
      have B6 := Aside0.mk (below_then B4.out B4.out.size (below_then B5.out B5.out.size Y5.out))
      have P6 := Aside0.mk V5.out.2.1
      clear hml V5 X5 C5 B5 Y5
      have k0 := (blk_cell X6.out 0).trans (rfl : _ = some (Value.int .i64 a.err))
      have k1 := (blk_cell X6.out 1).trans (rfl : _ = some (Value.bool a.found))
      have k2 := (blk_cell X6.out 2).trans (rfl : _ = some (Value.int .i64 a.key))
      have k3 := (blk_cell X6.out 3).trans (rfl : _ = some (Value.int .i64 a.value))
      have k4 := (blk_cell X6.out 4).trans (rfl : _ = some (Value.slice A m c))
      have k5 := (blk_cell X6.out 5).trans (rfl : _ = some (Value.bool a.short))
      have j0 := (blk_cell HBX.out 0).trans (rfl : _ = some (Value.int .i64 a.err))
      have j1 := (blk_cell HBX.out 1).trans (rfl : _ = some (Value.bool a.found))
      have j2 := (blk_cell HBX.out 2).trans (rfl : _ = some (Value.int .i64 a.key))
      have j3 := (blk_cell HBX.out 3).trans (rfl : _ = some (Value.int .i64 a.value))
      have j4 := (blk_cell HBX.out 4).trans (rfl : _ = some (Value.slice A8 m c8))
      have j5 := (blk_cell HBX.out 5).trans (rfl : _ = some (Value.bool a.short))
      go_wp2_with (go_at_call 12; refine (same_calls a A A8 m c c8 _ HMM.out hm40 C6.out (by rw [HMM.out]; exact HL.out) V6.out P6.out).mono ?_; rintro e w7 ⟨rfl, hb⟩; have B7 := Aside0.mk (below_then B6.out B6.out.size hb); have k5 := (blk_cell (blk_below X6.out hb) 5).trans (rfl : _ = some (Value.bool a.short)); have j5 := (blk_cell (blk_below HBX.out hb) 5).trans (rfl : _ = some (Value.bool a.short)); clear hb)
      go_ret
      exact ⟨rfl, B7.out⟩
theorem codes_calls (a : Ans) (A : Option Addr) (c : Nat) (w : World) (hC : kPair.C w A a.pairs.length a.pairs) (hc : a.pairs.length ≤ c) :
    Calls Tryz.prog 3 #[ansV a A c] w fun e w1 => e = .returned (.bool true) ∧ Below w.heap.size w w1 := by
  by_cases h40 : a.pairs.length ≤ 40
  · exact codes_some a A c w hC hc h40
  · exact codes_long a A c w (by omega)
end Go.Proofs.YthlmgbdknjilpaaGreat.Tower
namespace Go.Proofs.YthlmgbdknjilpaaGreat.Tower
open Go Go.RowKit Go.ChangeShapes Go.WideShapes Go.Deep Go.Joins Go.Proofs.YthlmgbdknjilpaaGreatW.PrintWords Go.Proofs.YthlmgbdknjilpaaGreatW.PrintLast Go.Proofs.YthlmgbdknjilpaaGreatW.PrintMore Go.Proofs.YthlmgbdknjilpaaGreat.Own
set_option linter.unusedVariables false
set_option linter.unusedSimpArgs false

section
variable {H : Type} {enc : TypeId × Value → H} {w : World} {base : Nat} {spare : Nat → Bool} {held : Bool}
theorem choose_list {α : Type} {p : Nat → α → Prop} : ∀ n : Nat, (∀ i, i < n → ∃ x, p i x) → ∃ xs : List α, xs.length = n ∧ ∀ i x, xs[i]? = some x → p i x
  | 0, _ => ⟨[], rfl, fun i x h => by simp at h⟩
  | n + 1, h => by
    obtain ⟨xs, hl, hp⟩ := choose_list n (fun i hi => h i (by omega))
    obtain ⟨y, hy⟩ := h n (by omega)
    refine ⟨xs ++ [y], by simp [hl], fun i x hx => ?_⟩
    rcases Nat.lt_or_ge i xs.length with hi | hi
    · rw [List.getElem?_append_left hi] at hx
      exact hp i x hx
    · rw [List.getElem?_append_right hi] at hx
      have : i - xs.length = 0 := by
        rcases Nat.eq_zero_or_pos (i - xs.length) with h | h
        · exact h
        · rw [List.getElem?_eq_none (by simp; omega)] at hx; cases hx
      rw [this] at hx
      simp at hx
      subst hx
      rwa [show i = n by omega]
/-- Pairs. -/
theorem open_pairs {n : Nat} {cs : List Value} {x : DataW H × List MemPlace} (h : DataW.trod enc Tryz.prog w base spare held n 24 cs = some x) :
    ∃ A c xs, cs = [.slice A xs.length c] ∧ xs.length ≤ c ∧ kPair.C w A xs.length xs := by
  rcases open_slice_pairs Tryz.underlying24 Tryz.underlying31 (by kernel_rfl) rfl rfl (by kernel_rfl) (by kernel_rfl) h with ⟨h1, _⟩ | ⟨a, len, cap, m, n1, V0, V1, D0, D1, P0, P1, h1, _, h3, h4, h5, _, h7⟩
  · exact ⟨none, 0, [], h1, Nat.le_refl _, ⟨rfl, by simp, fun h => absurd h (by simp)⟩⟩
  · have hlm : len ≤ m := by rw [h5]; split <;> omega
    have hall : ∀ i, i < len → ∃ q : Int × Int, w.cell? (a.add (i * 2)) = some (.int .i64 q.1) ∧ w.cell? (a.add (i * 2 + 1)) = some (.int .i64 q.2) := by
      intro i hi
      obtain ⟨c0, c1, t0, t1⟩ := h7 i (by omega)
      obtain ⟨k0, e0, _, _⟩ := DataW.trod_int Tryz.underlying2 t0
      obtain ⟨k1, e1, _, _⟩ := DataW.trod_int Tryz.underlying2 t1
      injection e0 with e0
      injection e1 with e1
      exact ⟨(k0, k1), by rw [c0, e0], by rw [c1, e1]⟩
    obtain ⟨xs, hxl, hxp⟩ := choose_list len hall
    have hmax : maxLen ≤ 9223372036854775807 := by decide
    refine ⟨some a, cap, xs, by rw [h1, hxl], by omega, ⟨rfl, by omega, fun _ => ⟨a, rfl, fun j q hq => ⟨[.int .i64 q.1, .int .i64 q.2], rfl, ⟨[.int .i64 q.1], [.int .i64 q.2], rfl, rfl, rfl⟩, fun i u hu => ?_⟩⟩⟩⟩
    have hp := hxp j q hq
    match i, hu with
    | 0, hu => injection hu with hu; subst hu; exact hp.1
    | 1, hu => injection hu with hu; subst hu; exact hp.2
    | i + 2, hu => simp at hu
theorem trod_six {P : Program} {t : TypeId} {f0 f1 f2 f3 f4 f5 : Field} {fuel : Nat} {cs : List Value} {x : DataW H × List MemPlace} (ht : P.underlying t = some (.struct #[f0, f1, f2, f3, f4, f5])) (h : DataW.trod enc P w base spare held fuel t cs = some x) :
    ∃ y0 y1 y2 y3 y4 y5 n, cs.length = P.cellsOf t ∧ DataW.trod enc P w base spare held n f0.type ((cs.drop f0.offset).take (P.cellsOf f0.type)) = some y0 ∧
      DataW.trod enc P w base spare held n f1.type ((cs.drop f1.offset).take (P.cellsOf f1.type)) = some y1 ∧ DataW.trod enc P w base spare held n f2.type ((cs.drop f2.offset).take (P.cellsOf f2.type)) = some y2 ∧
      DataW.trod enc P w base spare held n f3.type ((cs.drop f3.offset).take (P.cellsOf f3.type)) = some y3 ∧ DataW.trod enc P w base spare held n f4.type ((cs.drop f4.offset).take (P.cellsOf f4.type)) = some y4 ∧
      DataW.trod enc P w base spare held n f5.type ((cs.drop f5.offset).take (P.cellsOf f5.type)) = some y5 := by
  obtain ⟨xs, n, _, rfl, hl, hlen, hf⟩ := DataW.trod_struct ht h
  match xs, hlen with
  | [y0, y1, y2, y3, y4, y5], _ => exact ⟨y0, y1, y2, y3, y4, y5, n, hl, by simpa using hf 0 f0 rfl, by simpa using hf 1 f1 rfl, by simpa using hf 2 f2 rfl, by simpa using hf 3 f3 rfl, by simpa using hf 4 f4 rfl, by simpa using hf 5 f5 rfl⟩
set_option maxRecDepth 100000 in
/-- An answer. -/
theorem open_ans {n : Nat} {cs : List Value} {x : DataW H × List MemPlace} (h : DataW.trod enc Tryz.prog w base spare held n 26 cs = some x) :
    ∃ (a : Ans) (A : Option Addr) (c : Nat), cs = [.int .i64 a.err, .bool a.found, .int .i64 a.key, .int .i64 a.value, .slice A a.pairs.length c, .bool a.short] ∧ a.pairs.length ≤ c ∧ kPair.C w A a.pairs.length a.pairs := by
  obtain ⟨y0, y1, y2, y3, y4, y5, n, hl, h0, h1, h2, h3, h4, h5⟩ := trod_six Tryz.underlying26 h
  rw [show Tryz.prog.cellsOf 26 = 6 by kernel_rfl] at hl
  match cs, hl with
  | [c0, c1, c2, c3, c4, c5], _ =>
    rw [show Tryz.prog.cellsOf 22 = 1 by kernel_rfl] at h0
    rw [show Tryz.prog.cellsOf 4 = 1 by kernel_rfl] at h1 h5
    rw [show Tryz.prog.cellsOf 2 = 1 by kernel_rfl] at h2 h3
    rw [show Tryz.prog.cellsOf 24 = 1 by kernel_rfl] at h4
    obtain ⟨e, e0, _⟩ := DataW.trod_int Tryz.underlying22 h0
    obtain ⟨f, e1, _⟩ := DataW.trod_bool Tryz.underlying4 h1
    obtain ⟨k, e2, _⟩ := DataW.trod_int Tryz.underlying2 h2
    obtain ⟨v, e3, _⟩ := DataW.trod_int Tryz.underlying2 h3
    obtain ⟨A, c, ps, e4, h6, h7⟩ := open_pairs h4
    obtain ⟨s, e5, _⟩ := DataW.trod_bool Tryz.underlying4 h5
    simp at e0 e1 e2 e3 e4 e5
    subst e0 e1 e2 e3 e4 e5
    exact ⟨⟨e, f, k, v, ps, s⟩, A, c, rfl, h6, h7⟩
end
end Go.Proofs.YthlmgbdknjilpaaGreat.Tower
namespace Go.Proofs.YthlmgbdknjilpaaGreat.askCodes
open Go Go.ChangeShapes Go.WideShapes Go.ChangeAt Go.RowKit Go.Joins Go.Deep
open Go.Proofs.YthlmgbdknjilpaaGreatW.PrintWords (Kd ReadsInt.ofRowC Kd.C_of_reads)
set_option linter.unusedVariables false
theorem own : ownKnob Tryz.prog.godebug = none := by kernel_rfl
theorem laidOut : laidOutB Tryz.prog = true := by kernel_rfl
set_option maxRecDepth 100000 in
theorem lifted (os : Os) (started : os.Started) (H : Type) (enc : TypeId × Value → H) :
    ReturnsInHanded {} Tryz.checked os 3 .any (Rows.askCodesSpec.pre6 enc Tryz.prog Tryz.f3 Rows.askCodesRow.domain false) (Rows.askCodesSpec.post enc Tryz.prog Tryz.f3 false true false false) := by
  refine returnsInHanded_of_change_sized (C := Tryz.checked) own started (by kernel_rfl) Tryz.func3
    (ChangeSpec.witness6 (enc := enc) (C := Tryz.checked) false ⟨#[], #[.agg #[.int .i64 0, .bool false, .int .i64 0, .int .i64 0, .slice none 0 0, .bool false]], []⟩ 8 (by kernel_rfl) (by kernel_rfl) (by kernel_rfl) (by kernel_rfl)) ?_
  intro W base args ds gs before hval0 hW hcnd hsz0 _
  have hval : ∀ (j : Nat) t v, Tryz.f3.params[j]? = some t → args[j]? = some v → Value.okWide Tryz.prog W .any base t v := hval0
  have hW' := hW
  obtain ⟨p, q, hA0, hV, rfl, hfz, hnd⟩ := hW
  have hA : DataW.TrodAll enc Tryz.prog W 0 (fun _ => true) true Tryz.f3.params.toList args.toList ds p := hA0
  rw [Tryz.params3] at hA hval
  obtain ⟨v0, vs0, d0, ds0, p0, q0, hargs, rfl, rfl, h0, r0⟩ := trodAll_cons hA
  obtain ⟨rfl, rfl, rfl⟩ := trodAll_nil r0
  obtain rfl : args = #[v0] := by cases args; simp_all
  obtain ⟨rfl, rfl⟩ := trodVars_none hV
  obtain ⟨cs0, rfl, hsz0⟩ := okWide_struct Tryz.underlying26 (hval 0 26 v0 rfl rfl)
  have k0 := h0
  have lt0 : ∀ x ∈ p0, x.block < W.heap.size := by obtain ⟨m, hm⟩ := k0; exact DataW.trod_lt m _ _ _ hm
  obtain ⟨fuel0, hf0⟩ := h0
  obtain ⟨a0, A0, c0, hcs0, hle0, hC0⟩ := Tower.open_ans hf0
  obtain rfl : cs0 = #[.int .i64 a0.err, .bool a0.found, .int .i64 a0.key, .int .i64 a0.value, .slice A0 a0.pairs.length c0, .bool a0.short] := by
    apply Array.toList_inj.mp
    simpa [Value.cells] using hcs0
  clear hA0 hval0 hsz0
  refine (Tower.codes_calls a0 A0 c0 W hC0 hle0).mono fun e W' ⟨he, bel⟩ => ?_
  subst he
  exact ⟨_, rfl, _, _, _, [], _, [], hW', trodAll_mk1 (shut_bool Tryz.underlying4 _), (trodAll_cons_mk (Below.trod laidOut (by kernel_rfl) (of_decide_eq_true (by kernel_rfl)) k0 bel lt0) trodAll_mk0), rfl, bel.frame _, fun h => by cases h⟩
theorem over : Rows.askCodesRow.holds Tryz.pinned (OpenSpec.ofChange Rows.askCodesSpec) :=
  OpenClaim.holds_of_wide 3 Tryz.f3 rfl rfl rfl rfl rfl rfl rfl ⟨rfl, rfl, rfl, rfl, rfl⟩ rfl rfl rfl rfl rfl (by kernel_rfl) Tryz.func3 (by kernel_rfl)
    (of_decide_eq_true (by kernel_rfl)) (by unfold Func.isWrapper; first | (rw [if_pos (by decide +kernel)]; kernel_rfl) | (rw [if_neg (by decide +kernel)]; exact ⟨rfl, rfl⟩))
    (fun os started H enc _ => lifted os started H enc)
theorem proved : Rows.AskCodesSaid := over
#print axioms proved
end Go.Proofs.YthlmgbdknjilpaaGreat.askCodes
namespace Go.Proofs.YthlmgbdknjilpaaGreat
/-- The row, under a short name, for the claim. -/
theorem askCodes_holds : Rows.AskCodesSaid := askCodes.proved
end Go.Proofs.YthlmgbdknjilpaaGreat
