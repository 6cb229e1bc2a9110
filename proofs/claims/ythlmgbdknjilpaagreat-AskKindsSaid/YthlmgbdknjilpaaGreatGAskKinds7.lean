/- For every input the law AskKinds answers true, and the input reads as it did. No conditions. -/
import Derived.Test.YthlmgbdknjilpaaGreatRows
import Derived.Test.YthlmgbdknjilpaaGreatGAskKinds0
import Derived.Test.YthlmgbdknjilpaaGreatGAskKinds1
import Derived.Test.YthlmgbdknjilpaaGreatGAskKinds2
import Derived.Test.YthlmgbdknjilpaaGreatGAskKinds3
import Derived.Test.YthlmgbdknjilpaaGreatGAskKinds4
import Derived.Test.YthlmgbdknjilpaaGreatGAskKinds5
import Derived.Test.YthlmgbdknjilpaaGreatGAskKinds6
import Derived.OpenShut
import Derived.ShutString
import Derived.ChangeOld
import Derived.SizedLaws
import Derived.Lib.SmallJoins
import Derived.Deep.Slices
namespace Go.Proofs.YthlmgbdknjilpaaGreat.Tower
open Go Go.RowKit Go.Proofs.YthlmgbdknjilpaaGreatW.PrintWords Go.Proofs.YthlmgbdknjilpaaGreatW.PrintLast Go.Proofs.YthlmgbdknjilpaaGreatW.PrintMore Go.Proofs.YthlmgbdknjilpaaGreat.Own Go.Proofs.YthlmgbdknjilpaaGreat.PAskKinds
set_option linter.unusedVariables false
set_option linter.unusedSimpArgs false
structure Leads (sl : List Sl) (r : Int) (q : Sl) : Prop where
  out : ∃ j : Nat, placeOf r = (j : Int) ∧ sl[j]? = some q ∧ q.used = true ∧ refOf j q.count = r
theorem Leads.idx {a : Ar} {r : Int} {q : Sl} (h : Leads a.slots r q) : ∃ j, a.idx r = some j ∧ a.slots[j]? = some q ∧ placeOf r = (j : Int) := by
  obtain ⟨j, h1, h2, h3, h4⟩ := h.out
  refine ⟨j, ?_, h2, h1⟩
  unfold Ar.idx
  rw [h1, if_neg (by omega), Int.toNat_natCast, h2]
  simp only
  rw [if_pos h3, if_pos h4]
theorem Leads.look {a : Ar} {r : Int} {q : Sl} (h : Leads a.slots r q) : a.look r = (q.node, a) := by
  obtain ⟨j, h1, h2, _⟩ := h.idx
  unfold Ar.look
  rw [h1]
  simp only
  rw [h2]
theorem Leads.way {a : Ar} {r : Int} {q : Sl} (h : Leads a.slots r q) (i : Nat) (hi : i < q.ways.length) : a.way r (i : Int) = (q.ways.getD i 0, a) := by
  obtain ⟨j, h1, h2, _⟩ := h.idx
  unfold Ar.way
  rw [h1]
  simp only
  rw [h2]
  simp only
  rw [if_neg (by omega), if_neg (by omega), Int.toNat_natCast]
mutual
def isT : Sh → List Sl → Int → Prop
  | ⟨l, t, ps, ks, kids⟩, sl, r => ∃ ws q, Leads sl r q ∧ q.node = ndSh ⟨l, t, ps, ks, kids⟩ ws ∧ q.ways = ws ∧ isL kids sl ws
def isL : List Sh → List Sl → List Int → Prop
  | [], _, ws => ws = []
  | k :: r, sl, ws => ∃ x ws1, ws = x :: ws1 ∧ isT k sl x ∧ isL r sl ws1
end
theorem isT_eq (s : Sh) (sl : List Sl) (r : Int) : isT s sl r ↔ ∃ ws q, Leads sl r q ∧ q.node = ndSh s ws ∧ q.ways = ws ∧ isL s.f4 sl ws := by cases s; rw [isT]
theorem prs12 (l : List Pr2) : prs1 (prs2 l) = l := by
  unfold prs1 prs2
  rw [List.map_map]
  exact List.map_id'' (fun q => rfl) l
theorem shN_nd (s : Sh) (ws : List Int) : shN (ndSh s ws) s.f4 = s := by
  cases s with
  | mk l t ps ks kids =>
    unfold shN ndSh
    simp [prs12]
theorem readL_is (d : Nat) (ih : ∀ (s : Sh) (a : Ar) (r : Int), deepT s ≤ d → isT s a.slots r → readT d r a = (s, a)) (a : Ar) (r : Int) (q : Sl) (hq : Leads a.slots r q) : ∀ (kids : List Sh) (ws : List Int) (i : Nat), q.ways.drop i = ws → isL kids a.slots ws → deepL kids ≤ d + 1 → readL (readT d) r i ws.length a = (kids, a)
  | [], ws, i, h, hl, hd => by
    rw [isL] at hl
    subst hl
    rfl
  | k :: ks, ws, i, h, hl, hd => by
    rw [isL] at hl
    obtain ⟨x, ws1, rfl, h1, h2⟩ := hl
    rw [deepL] at hd
    have hi : i < q.ways.length := by
      have := congrArg List.length h
      rw [List.length_drop, List.length_cons] at this
      omega
    have hx : q.ways.getD i 0 = x := by
      have := congrArg (fun l => l[0]?) h
      simp only [List.getElem?_drop, Nat.add_zero, List.getElem?_cons_zero] at this
      rw [List.getD_eq_getElem?_getD, this]
      rfl
    have hw := hq.way i hi
    rw [hx] at hw
    rw [List.length_cons, readL, hw]
    simp only
    rw [ih k a x (by omega) h1]
    simp only
    rw [readL_is d ih a r q hq ks ws1 (i + 1) (by rw [← List.drop_drop, h]; rfl) h2 (by omega)]
theorem read_is : ∀ (d : Nat) (s : Sh) (a : Ar) (r : Int), deepT s ≤ d → isT s a.slots r → readT d r a = (s, a) := by
  intro d
  induction d with
  | zero =>
    intro s a r hd h
    obtain ⟨ws, q, h1, h2, h3, h4⟩ := (isT_eq s a.slots r).1 h
    have hk : s.f4 = [] := by
      rw [deepT_eq] at hd
      cases h : s.f4 with
      | nil => rfl
      | cons k r => rw [h, deepL] at hd; omega
    rw [readT, h1.look, h2]
    have := shN_nd s ws
    rw [hk] at this
    simp only [this]
  | succ d ih =>
    intro s a r hd h
    obtain ⟨ws, q, h1, h2, h3, h4⟩ := (isT_eq s a.slots r).1 h
    rw [deepT_eq] at hd
    have hl := readL_is d ih a r q h1 s.f4 ws 0 (by rw [h3]; rfl) h4 hd
    rw [readT, h1.look, h2]
    simp only
    rw [show (ndSh s ws).ways.length = ws.length from rfl, hl]
    simp only [shN_nd]
set_option maxRecDepth 100000 in
theorem place_all : ∀ i : Fin 1001, placeOf (refOf (i.val : Int) 1) = (i.val : Int) := by decide +kernel
theorem alloc_fresh (n : Nd) (a : Ar) (h : a.free = []) (hu : a.used = (a.slots.length : Int)) (hl : a.slots.length ≤ 1000) (hm : (a.slots.length : Int) < a.most) :
    a.alloc n = some ((refOf (a.slots.length : Int) 1, true), { a with slots := a.slots ++ [slotOf n 1], used := a.used + 1 }) := by
  unfold Ar.alloc
  rw [if_neg (by omega)]
  have ht : a.take = some (a.slots.length, { a with slots := a.slots ++ [sl0] }) := by unfold Ar.take; rw [h]
  rw [ht]
  simp only
  rw [List.getElem?_append_right (Nat.le_refl _), Nat.sub_self]
  simp only [List.getElem?_cons_zero]
  have hw : wrap64 (a.used + 1) = a.used + 1 := by unfold wrap64; omega
  unfold Ar.put
  simp only [show u32w (sl0.count + 1) = 1 from rfl, hw]
  rw [List.set_append_right _ _ (Nat.le_refl _), Nat.sub_self]
  rfl
def grow (a : Ar) (new : List Sl) : Ar := { a with slots := a.slots ++ new, used := a.used + (new.length : Int) }
def Fits1 (new : List Sl) : Prop := ∀ q ∈ new, q.node.Small ∧ q.ways.length < 1000000
def Sees (a : Ar) (new sl : List Sl) : Prop := ∀ j, a.slots.length ≤ j → j < a.slots.length + new.length → sl[j]? = (a.slots ++ new)[j]?
mutual
theorem madeT_ok : ∀ (s : Sh) (a : Ar), slimT s → a.free = [] → a.used = (a.slots.length : Int) → a.slots.length + manyT s ≤ 1000 → ((a.slots.length + manyT s : Nat) : Int) ≤ a.most → ∃ r new, madeT s a = some (r, grow a new) ∧ new.length = manyT s ∧ Fits1 new ∧ ∀ sl, Sees a new sl → isT s sl r
  | ⟨l, t, ps, ks, kids⟩, a, hs, hf, hu, h1, hm => by
    rw [slimT] at hs
    rw [manyT] at h1 hm
    obtain ⟨ws, nl, e1, e2, e3, e4, e5⟩ := madeL_ok kids a hs.2.2.2 hf hu (by omega) (by omega)
    have hal := alloc_fresh (ndSh ⟨l, t, ps, ks, kids⟩ ws) (grow a nl) hf (by show a.used + (nl.length : Int) = ((a.slots ++ nl).length : Int); rw [List.length_append, hu]; omega) (by show (a.slots ++ nl).length ≤ 1000; rw [List.length_append]; omega) (by show ((a.slots ++ nl).length : Int) < a.most; rw [List.length_append]; omega)
    have hlen : (grow a nl).slots.length = a.slots.length + nl.length := List.length_append
    have hnp : (ndSh ⟨l, t, ps, ks, kids⟩ ws).pairs.length < 1000000 := by show (prs2 ps).length < _; rw [prs2_length]; omega
    refine ⟨refOf ((a.slots.length + nl.length : Nat) : Int) 1, nl ++ [slotOf (ndSh ⟨l, t, ps, ks, kids⟩ ws) 1], ?_, ?_, ?_, ?_⟩
    · rw [madeT_eq, e1, Option.bind_some]
      unfold madeN
      rw [if_pos ⟨by rw [hlen]; omega, hnp, by show ks.length < _; omega, by show ws.length < _; omega⟩, hal, Option.map_some, hlen]
      unfold grow
      simp only [List.append_assoc, List.length_append, List.length_singleton]
      congr 2
      simp only [Ar.mk.injEq, true_and, and_true]
      omega
    · rw [List.length_append, List.length_singleton, manyT, e2]; omega
    · intro q hq
      rcases List.mem_append.1 hq with hq | hq
      · exact e3 q hq
      · rw [List.mem_singleton] at hq
        subst hq
        exact ⟨⟨hnp, by show ks.length < _; omega, by show ws.length < _; omega⟩, by show ws.length < _; omega⟩
    · intro sl hsl
      rw [isT]
      have hj := hsl (a.slots.length + nl.length) (by omega) (by rw [List.length_append, List.length_singleton]; omega)
      rw [← List.append_assoc, List.getElem?_append_right (by rw [List.length_append]; omega), List.length_append, Nat.sub_self] at hj
      refine ⟨ws, slotOf (ndSh ⟨l, t, ps, ks, kids⟩ ws) 1, ⟨⟨a.slots.length + nl.length, place_all ⟨a.slots.length + nl.length, by omega⟩, hj, rfl, rfl⟩⟩, rfl, rfl, e5 sl (fun j hj1 hj2 => ?_)⟩
      have := hsl j hj1 (by rw [List.length_append]; omega)
      rw [this, ← List.append_assoc, List.getElem?_append_left (by rw [List.length_append]; omega)]
theorem madeL_ok : ∀ (kids : List Sh) (a : Ar), slimL kids → a.free = [] → a.used = (a.slots.length : Int) → a.slots.length + manyL kids ≤ 1000 → ((a.slots.length + manyL kids : Nat) : Int) ≤ a.most → ∃ ws new, madeL kids a = some (ws, grow a new) ∧ new.length = manyL kids ∧ Fits1 new ∧ ws.length = kids.length ∧ ∀ sl, Sees a new sl → isL kids sl ws
  | [], a, hs, hf, hu, h1, hm => ⟨[], [], by rw [madeL]; unfold grow; simp, rfl, (fun q hq => by cases hq), rfl, fun sl _ => by rw [isL]⟩
  | k :: ks, a, hs, hf, hu, h1, hm => by
    rw [slimL] at hs
    rw [manyL] at h1 hm
    obtain ⟨x, n1, e1, e2, e3, e4⟩ := madeT_ok k a hs.1 hf hu (by omega) (by omega)
    have hlen : (grow a n1).slots.length = a.slots.length + n1.length := List.length_append
    obtain ⟨ws, n2, d1, d2, d3, d4, d5⟩ := madeL_ok ks (grow a n1) hs.2 hf (by show a.used + (n1.length : Int) = _; rw [hlen, hu]; omega) (by rw [hlen]; omega) (by rw [hlen]; show _ ≤ a.most; omega)
    refine ⟨x :: ws, n1 ++ n2, ?_, ?_, ?_, ?_, ?_⟩
    · rw [madeL, e1, Option.bind_some]
      simp only
      rw [d1, Option.bind_some]
      unfold grow
      simp only [List.append_assoc, List.length_append]
      congr 2
      simp only [Ar.mk.injEq, true_and, and_true]
      omega
    · rw [List.length_append, manyL, e2, d2]
    · intro q hq
      rcases List.mem_append.1 hq with hq | hq
      · exact e3 q hq
      · exact d3 q hq
    · rw [List.length_cons, List.length_cons, d4]
    · intro sl hsl
      rw [isL]
      refine ⟨x, ws, rfl, e4 sl (fun j hj1 hj2 => ?_), d5 sl (fun j hj1 hj2 => ?_)⟩
      · have := hsl j hj1 (by rw [List.length_append]; omega)
        rw [this, ← List.append_assoc, List.getElem?_append_left (by rw [List.length_append]; omega)]
      · rw [hlen] at hj1 hj2
        have := hsl j (by omega) (by rw [List.length_append]; omega)
        rw [this, ← List.append_assoc]
        rfl
end
def slA : Sl := slotOf nd0 1
def slB : Sl := slotOf (ndE qRoot) 1
theorem ref0 : refOf 0 1 = qRoot := by kernel_rfl
theorem ref1 : refOf 1 1 = qEntry := by kernel_rfl
theorem place0 : placeOf qRoot = 0 := by kernel_rfl
theorem place1 : placeOf qEntry = 1 := by kernel_rfl
theorem ws0_two (lo wd nodes : Int) (hn : 2 ≤ nodes) : ws0 lo wd 2 nodes 4 = some ⟨⟨[slA, slB], [], nodes, 2, 0⟩, ⟨[], 4⟩, ⟨0, [-1, -1], [[], []]⟩, lo, wd, qEntry⟩ := by
  unfold ws0
  rw [alloc_fresh nd0 (ar0 nodes) rfl rfl (by show (0 : Nat) ≤ 1000; omega) (by show (0 : Int) < nodes; omega)]
  simp only
  rw [alloc_fresh _ _ rfl rfl (by show (1 : Nat) ≤ 1000; omega) (by show (1 : Int) < nodes; omega)]
  simp only
  rw [show refOf (((ar0 nodes).slots.length : Nat) : Int) 1 = qRoot from ref0]
  rw [show refOf ((((ar0 nodes).slots ++ [slotOf nd0 1]).length : Nat) : Int) 1 = qEntry from ref1]
  rfl
theorem leadsA (l : List Sl) (q : Sl) (r : List Sl) (h : l = q :: r) (hu : q.used = true) (hc : q.count = 1) : Leads l qRoot q := ⟨⟨0, place0, by rw [h]; rfl, hu, by rw [hc]; exact ref0⟩⟩
theorem leadsB (l : List Sl) (p q : Sl) (r : List Sl) (h : l = p :: q :: r) (hu : q.used = true) (hc : q.count = 1) : Leads l qEntry q := ⟨⟨1, place1, by rw [h]; rfl, hu, by rw [hc]; exact ref1⟩⟩
theorem countP_le {l : List Sl} : (l.countP fun q => q.used) ≤ l.length := List.countP_le_length
theorem plant_world (s : Sh) (lo wd nodes : Int) (tt : Tb) (ep : Ep) (hs : slimT s) (hd : deepT s ≤ 40) (h1 : manyT s ≤ 930) (hm : (2 + manyT s : Int) ≤ nodes) (h6 : nodes ≤ 65536) :
    ∃ a : Ar, plantT s ⟨⟨[slA, slB], [], nodes, 2, 0⟩, tt, ep, lo, wd, qEntry⟩ = some ⟨a, tt, ep, lo, wd, qEntry⟩ ∧ a.Good ∧ ∀ ep1, (Ws.read ⟨a, tt, ep1, lo, wd, qEntry⟩).1 = s := by
  obtain ⟨r, new, e1, e2, e3, e4⟩ := madeT_ok s ⟨[slA, slB], [], nodes, 2, 0⟩ hs rfl rfl (by show 2 + manyT s ≤ 1000; omega) (by show ((2 + manyT s : Nat) : Int) ≤ nodes; omega)
  have hB : Leads [slA, slB] qEntry slB := leadsB _ _ _ [] rfl rfl rfl
  have hw : (⟨[slA, slB], [], nodes, 2, 0⟩ : Ar).way qEntry 0 = (qRoot, ⟨[slA, slB], [], nodes, 2, 0⟩) := Leads.way (a := ⟨[slA, slB], [], nodes, 2, 0⟩) hB 0 (by decide)
  have hsw : (grow ⟨[slA, slB], [], nodes, 2, 0⟩ new).swapWay qEntry 0 qRoot r = (true, ⟨slA :: { slB with ways := [r] } :: new, [], nodes, 2 + (new.length : Int), 0⟩) := by
    obtain ⟨j, i1, i2, i3⟩ := Leads.idx (a := grow ⟨[slA, slB], [], nodes, 2, 0⟩ new) (leadsB _ slA slB new rfl rfl rfl)
    have hj : j = 1 := by rw [place1] at i3; omega
    subst hj
    unfold Ar.swapWay
    rw [i1]
    simp only
    rw [i2]
    simp only
    rw [if_neg (by omega), if_neg (by decide), if_pos (by rfl)]
    rfl
  have hfr : (⟨slA :: { slB with ways := [r] } :: new, [], nodes, 2 + (new.length : Int), 0⟩ : Ar).free_ qRoot = (true, ⟨{ slA with used := false } :: { slB with ways := [r] } :: new, [0], nodes, 1 + (new.length : Int), 0⟩) := by
    obtain ⟨j, i1, i2, i3⟩ := Leads.idx (a := ⟨slA :: { slB with ways := [r] } :: new, [], nodes, 2 + (new.length : Int), 0⟩) (leadsA _ slA ({ slB with ways := [r] } :: new) rfl rfl rfl)
    have hj : j = 0 := by rw [place0] at i3; omega
    subst hj
    unfold Ar.free_
    rw [i1]
    simp only
    rw [i2]
    simp only
    unfold Ar.freed
    rw [place0, show wrap64 (2 + (new.length : Int) - 1) = 1 + (new.length : Int) from by unfold wrap64; omega]
    rfl
  refine ⟨⟨{ slA with used := false } :: { slB with ways := [r] } :: new, [0], nodes, 1 + (new.length : Int), 0⟩, ?_, ?_, fun ep1 => ?_⟩
  · unfold plantT
    simp only
    rw [hw]
    simp only
    rw [e1, Option.bind_some]
    simp only
    rw [hsw]
    simp only
    rw [hfr]
    rw [if_pos ⟨by decide, by show ([slA, slB] ++ new).length < 1000000; rw [List.length_append]; show 2 + new.length < _; omega, by rw [List.length_cons, List.length_cons]; omega, by decide⟩]
  · refine ⟨h6, by simp only [List.length_cons]; omega, by simp only [List.length_cons, List.length_nil]; omega, ?_, fun i q hi => ?_⟩
    · rw [List.countP_cons_of_neg (by simp)]
      have := @countP_le ({ slB with ways := [r] } :: new)
      rw [List.length_cons] at this
      show _ ≤ 1 + (new.length : Int)
      omega
    · cases i with
      | zero => simp at hi; subst hi; exact ⟨⟨by decide, by decide, by decide⟩, by decide⟩
      | succ i =>
        cases i with
        | zero => simp at hi; subst hi; exact ⟨⟨by show (0 : Nat) < _; omega, by show (0 : Nat) < _; omega, by show (1 : Nat) < _; omega⟩, by simp⟩
        | succ i =>
          simp only [List.getElem?_cons_succ] at hi
          exact e3 q (List.mem_of_getElem? hi)
  · have hL : Leads ({ slA with used := false } :: { slB with ways := [r] } :: new) qEntry { slB with ways := [r] } := leadsB _ _ _ new rfl rfl rfl
    have hw1 := Leads.way (a := ⟨{ slA with used := false } :: { slB with ways := [r] } :: new, [0], nodes, 1 + (new.length : Int), 0⟩) hL 0 (by simp)
    unfold Ws.read
    simp only
    rw [show ((0 : Nat) : Int) = 0 from rfl] at hw1
    rw [hw1]
    simp only
    rw [show (([r] : List Int).getD 0 0) = r from rfl]
    rw [read_is 40 s _ r hd (e4 _ (fun j hj1 hj2 => by
      have hj : 2 ≤ j := hj1
      obtain ⟨i, rfl⟩ : ∃ i, j = i + 2 := ⟨j - 2, by omega⟩
      rfl))]
theorem kfacts (keys : List Int) (b0 : Int) (hk : keys.length ≤ 30) (h0 : 0 ≤ b0) (h1 : b0 < 256) : ∃ kf k k2 ys wd s m nodes x0 a tt lo wdi en, KFacts keys b0 kf k k2 ys wd s m nodes x0 a tt lo wdi en := by
  obtain ⟨ys, r1, r2⟩ := rising_f keys hk
  obtain ⟨wd, w1, w2, w3⟩ := wide_f b0 h0 h1
  obtain ⟨g1, g2, g3⟩ := evenT_good ys wd r2 w2 w3
  obtain ⟨a, p1, p2, p3⟩ := plant_world (evenT ys wd) (((wd + 1) / 2 : Nat) : Int) wd (7 + manyT (evenT ys wd) : Int) ⟨[], 4⟩ ⟨0, [-1, -1], [[], []]⟩ g3 g2 g1 (by omega) (by omega)
  have hg : ∀ ep, ep.Good → Ws.Good ⟨a, ⟨[], 4⟩, ep, (((wd + 1) / 2 : Nat) : Int), wd, qEntry⟩ := fun ep h => ⟨p2, h, ⟨by show (4 : Int) ≤ _; omega, by show (0 : Int) ≤ 4; omega, fun i e hi => by simp at hi⟩⟩
  exact ⟨_, _, _, ys, wd, evenT ys wd, _, _, _, a, ⟨[], 4⟩, _, _, qEntry, {
    rising := r1
    len := by omega
    wide := w1
    w3 := w2
    w8 := w3
    even := rfl
    many := many_ok 40 _ g2 g3 (by omega)
    nodesEq := show wrap64 (wrap64 (2 + (manyT (evenT ys wd) : Int)) + 5) = 7 + (manyT (evenT ys wd) : Int) by unfold wrap64; omega
    n2 := by omega
    n6 := by omega
    new := ws0_two _ _ _ (by omega)
    plant := p1
    good := hg _ ⟨by decide⟩
    good1 := hg _ ⟨by decide⟩
    read := p3 _
    same := same_ok 40 _ g2 g3 }⟩
theorem kinds_calls (A : Option Addr) (c : Nat) (keys : List Int) (b0 kind key upto value : Int) (w : World) (hC : (Kd.int .i64).C w A keys.length keys) (hc : keys.length ≤ c) (h0 : 0 ≤ b0) (h1 : b0 < 256) :
    Calls Tryz.prog 5 #[.slice A keys.length c, .int .u8 b0, .agg #[.int .u8 kind, .int .i64 key, .int .i64 upto, .int .i64 value]] w fun e w1 => e = .returned (.bool true) ∧ Below w.heap.size w w1 := by
  by_cases h : 30 < keys.length ∨ kind < 12
  · exact kinds_short A c keys b0 kind key upto value w h
  · obtain ⟨kf, k, k2, ys, wd, s, m, nodes, x0, a, tt, lo, wdi, en, hf⟩ := kfacts keys b0 (by omega) h0 h1
    exact kinds_walk A c keys b0 kind key upto value w hC hc (by omega) (by omega) hf
end Go.Proofs.YthlmgbdknjilpaaGreat.Tower
namespace Go.Proofs.YthlmgbdknjilpaaGreat.Tower
open Go Go.RowKit Go.ChangeShapes Go.WideShapes Go.Deep Go.Joins Go.Proofs.YthlmgbdknjilpaaGreatW.PrintWords Go.Proofs.YthlmgbdknjilpaaGreatW.PrintLast Go.Proofs.YthlmgbdknjilpaaGreatW.PrintMore Go.Proofs.YthlmgbdknjilpaaGreat.Own
set_option linter.unusedVariables false
set_option linter.unusedSimpArgs false
section
variable {H : Type} {enc : TypeId × Value → H} {w : World} {base : Nat} {spare : Nat → Bool} {held : Bool}
theorem trod_four {P : Program} {t : TypeId} {f0 f1 f2 f3 : Field} {fuel : Nat} {cs : List Value} {x : DataW H × List MemPlace} (ht : P.underlying t = some (.struct #[f0, f1, f2, f3])) (h : DataW.trod enc P w base spare held fuel t cs = some x) :
    ∃ y0 y1 y2 y3 n, cs.length = P.cellsOf t ∧ DataW.trod enc P w base spare held n f0.type ((cs.drop f0.offset).take (P.cellsOf f0.type)) = some y0 ∧
      DataW.trod enc P w base spare held n f1.type ((cs.drop f1.offset).take (P.cellsOf f1.type)) = some y1 ∧ DataW.trod enc P w base spare held n f2.type ((cs.drop f2.offset).take (P.cellsOf f2.type)) = some y2 ∧
      DataW.trod enc P w base spare held n f3.type ((cs.drop f3.offset).take (P.cellsOf f3.type)) = some y3 := by
  obtain ⟨xs, n, _, rfl, hl, hlen, hf⟩ := DataW.trod_struct ht h
  match xs, hlen with
  | [y0, y1, y2, y3], _ => exact ⟨y0, y1, y2, y3, n, hl, by simpa using hf 0 f0 rfl, by simpa using hf 1 f1 rfl, by simpa using hf 2 f2 rfl, by simpa using hf 3 f3 rfl⟩
set_option maxRecDepth 100000 in

theorem open_op {n : Nat} {cs : List Value} {x : DataW H × List MemPlace} (h : DataW.trod enc Tryz.prog w base spare held n 38 cs = some x) :
    ∃ o : Opn, cs = [.int .u8 o.kind, .int .i64 o.key, .int .i64 o.upto, .int .i64 o.value] := by
  obtain ⟨y0, y1, y2, y3, n, hl, h0, h1, h2, h3⟩ := trod_four Tryz.underlying38 h
  rw [show Tryz.prog.cellsOf 38 = 4 by kernel_rfl] at hl
  match cs, hl with
  | [c0, c1, c2, c3], _ =>
    rw [show Tryz.prog.cellsOf 36 = 1 by kernel_rfl] at h0
    rw [show Tryz.prog.cellsOf 2 = 1 by kernel_rfl] at h1 h2 h3
    obtain ⟨e, e0, _⟩ := DataW.trod_int Tryz.underlying36 h0
    obtain ⟨f, e1, _⟩ := DataW.trod_int Tryz.underlying2 h1
    obtain ⟨k, e2, _⟩ := DataW.trod_int Tryz.underlying2 h2
    obtain ⟨v, e3, _⟩ := DataW.trod_int Tryz.underlying2 h3
    simp at e0 e1 e2 e3
    subst e0 e1 e2 e3
    exact ⟨⟨e, f, k, v⟩, rfl⟩
end
theorem u8_range {b : Int} (h : (Lit.int .u8 b).wf = true) : 0 ≤ b ∧ b < 256 := by
  obtain ⟨h1, h2⟩ := (Bool.and_eq_true _ _).mp h
  have h1 := of_decide_eq_true h1
  have h2 := of_decide_eq_true h2
  rw [show IntKind.u8.min = 0 from rfl] at h1
  rw [show IntKind.u8.max = 255 from rfl] at h2
  exact ⟨h1, by omega⟩
theorem kinds_law (A : Option Addr) (c : Nat) (keys : List Int) (b0 : Int) (o : Opn) (w : World) (hC : (Kd.int .i64).C w A keys.length keys) (hc : keys.length ≤ c) (hw : ∀ n ∈ keys, (Lit.int .i64 n).wf = true) (wb : (Lit.int .u8 b0).wf = true) :
    Calls Tryz.prog 5 #[.slice A keys.length c, .int .u8 b0, .agg #[.int .u8 o.kind, .int .i64 o.key, .int .i64 o.upto, .int .i64 o.value]] w fun e w1 => e = .returned (.bool true) ∧ Below w.heap.size w w1 :=
  kinds_calls A c keys b0 o.kind o.key o.upto o.value w hC hc (u8_range wb).1 (u8_range wb).2
end Go.Proofs.YthlmgbdknjilpaaGreat.Tower
namespace Go.Proofs.YthlmgbdknjilpaaGreat.askKinds
open Go Go.ChangeShapes Go.WideShapes Go.ChangeAt Go.RowKit Go.Joins Go.Deep
open Go.Proofs.YthlmgbdknjilpaaGreatW.PrintWords (Kd ReadsInt.ofRowC Kd.C_of_reads)
set_option linter.unusedVariables false
theorem own : ownKnob Tryz.prog.godebug = none := by kernel_rfl
theorem laidOut : laidOutB Tryz.prog = true := by kernel_rfl
def IsRow (k : IntKind) (w : World) (a : Option Addr) (len cap : Nat) (zs : List Int) : Prop :=
  (a = none ∧ len = 0 ∧ cap = 0 ∧ zs = []) ∨
  ∃ x, a = some x ∧ len ≤ cap ∧ cap ≤ maxLen ∧ zs.length = cap ∧ (∀ i, i < zs.length → w.cell? (x.add i) = some (.int k (zs.getD i 0))) ∧ ∀ n ∈ zs, (Lit.int k n).wf = true
set_option maxRecDepth 100000 in
theorem lifted (os : Os) (started : os.Started) (H : Type) (enc : TypeId × Value → H) :
    ReturnsInHanded {} Tryz.checked os 5 .any (Rows.askKindsSpec.pre6 enc Tryz.prog Tryz.f5 Rows.askKindsRow.domain false) (Rows.askKindsSpec.post enc Tryz.prog Tryz.f5 false true false false) := by
  refine returnsInHanded_of_change_sized (C := Tryz.checked) own started (by kernel_rfl) Tryz.func5
    (ChangeSpec.witness6 (enc := enc) (C := Tryz.checked) false ⟨#[], #[.slice none 0 0, .int .u8 0, .agg #[.int .u8 0, .int .i64 0, .int .i64 0, .int .i64 0]], []⟩ 8 (by kernel_rfl) (by kernel_rfl) (by kernel_rfl) (by kernel_rfl)) ?_
  intro W base args ds gs before hval0 hW hcnd hsz0 _
  have hval : ∀ (j : Nat) t v, Tryz.f5.params[j]? = some t → args[j]? = some v → Value.okWide Tryz.prog W .any base t v := hval0
  have hW' := hW
  obtain ⟨p, q, hA0, hV, rfl, hfz, hnd⟩ := hW
  have hA : DataW.TrodAll enc Tryz.prog W 0 (fun _ => true) true Tryz.f5.params.toList args.toList ds p := hA0
  rw [Tryz.params5] at hA hval
  obtain ⟨v0, vs0, d0, ds0, p0, q0, hargs, rfl, rfl, h0, r0⟩ := trodAll_cons hA
  obtain ⟨v1, vs1, d1, ds1, p1, q1, rfl, rfl, rfl, h1, r1⟩ := trodAll_cons r0
  obtain ⟨v2, vs2, d2, ds2, p2, q2, rfl, rfl, rfl, h2, r2⟩ := trodAll_cons r1
  obtain ⟨rfl, rfl, rfl⟩ := trodAll_nil r2
  obtain rfl : args = #[v0, v1, v2] := by cases args; simp_all
  obtain ⟨rfl, rfl⟩ := trodVars_none hV
  obtain ⟨a0, len0, cap0, rfl⟩ := okWide_slice Tryz.underlying28 (hval 0 28 v0 rfl rfl)
  have k0 := h0
  have lt0 : ∀ x ∈ p0, x.block < W.heap.size := by obtain ⟨m, hm⟩ := k0; exact DataW.trod_lt m _ _ _ hm
  obtain ⟨z0, w0⟩ : ∃ zs, IsRow .i64 W a0 len0 cap0 zs := by
    obtain ⟨fuel, hf⟩ := h0
    rcases open_ints Tryz.underlying28 Tryz.underlying2 (by kernel_rfl) hf with ⟨hcs, _⟩ | ⟨x, l, c, zs, hcs, _, hl, hm, hz, _, hcell, hwz⟩
    · simp [Value.cells] at hcs
      obtain ⟨rfl, rfl, rfl⟩ := hcs
      exact ⟨[], .inl ⟨rfl, rfl, rfl, rfl⟩⟩
    · simp [Value.cells] at hcs
      obtain ⟨rfl, rfl, rfl⟩ := hcs
      exact ⟨zs, .inr ⟨_, rfl, hl, hm, by simpa using hz, hcell, hwz⟩⟩
  obtain ⟨l0, rfl, hr0, hm0, hw0, hc0⟩ := ReadsInt.ofRowC w0
  obtain ⟨a1, rfl, rfl, rfl, wa1⟩ := open_int Tryz.underlying5 (hval 1 5 v1 rfl rfl) h1
  obtain ⟨cs2, rfl, hsz2⟩ := okWide_struct Tryz.underlying38 (hval 2 38 v2 rfl rfl)
  have k2 := h2
  have lt2 : ∀ x ∈ p2, x.block < W.heap.size := by obtain ⟨m, hm⟩ := k2; exact DataW.trod_lt m _ _ _ hm
  obtain ⟨fuel2, hf2⟩ := h2
  obtain ⟨a2, hcs2⟩ := Tower.open_op hf2
  obtain rfl : cs2 = #[.int .u8 a2.kind, .int .i64 a2.key, .int .i64 a2.upto, .int .i64 a2.value] := by
    apply Array.toList_inj.mp
    simpa [Value.cells] using hcs2
  clear hA0 hval0 hsz0
  refine (Tower.kinds_law a0 cap0 l0 a1 a2 W (Kd.C_of_reads (d := (0 : Int)) (h1 := fun _ => rfl) hr0) hc0 hw0 wa1).mono fun e W' ⟨he, bel⟩ => ?_
  subst he
  exact ⟨_, rfl, _, _, _, [], _, [], hW', trodAll_mk1 (shut_bool Tryz.underlying4 _), (trodAll_cons_mk (Below.trod laidOut (by kernel_rfl) (of_decide_eq_true (by kernel_rfl)) k0 bel lt0) (trodAll_cons_mk (shut_int Tryz.underlying5 wa1) (trodAll_cons_mk (Below.trod laidOut (by kernel_rfl) (of_decide_eq_true (by kernel_rfl)) k2 bel lt2) trodAll_mk0))), rfl, bel.frame _, fun h => by cases h⟩
theorem over : Rows.askKindsRow.holds Tryz.pinned (OpenSpec.ofChange Rows.askKindsSpec) :=
  OpenClaim.holds_of_wide 5 Tryz.f5 rfl rfl rfl rfl rfl rfl rfl ⟨rfl, rfl, rfl, rfl, rfl⟩ rfl rfl rfl rfl rfl (by kernel_rfl) Tryz.func5 (by kernel_rfl)
    (of_decide_eq_true (by kernel_rfl)) (by unfold Func.isWrapper; first | (rw [if_pos (by decide +kernel)]; kernel_rfl) | (rw [if_neg (by decide +kernel)]; exact ⟨rfl, rfl⟩))
    (fun os started H enc _ => lifted os started H enc)
theorem proved : Rows.AskKindsSaid := over
#print axioms proved
end Go.Proofs.YthlmgbdknjilpaaGreat.askKinds
namespace Go.Proofs.YthlmgbdknjilpaaGreat
theorem askKinds_holds : Rows.AskKindsSaid := askKinds.proved
end Go.Proofs.YthlmgbdknjilpaaGreat
