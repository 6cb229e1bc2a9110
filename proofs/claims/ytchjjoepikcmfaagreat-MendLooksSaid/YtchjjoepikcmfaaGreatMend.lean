/- mend.Look, and mend.Path where nothing is wrong, walked. -/
import Derived.Test.YtchjjoepikcmfaaGreatPath2
namespace Go.Proofs.YtchjjoepikcmfaaGreat.Tower
open Go Go.RowKit Go.Proofs.YtchjjoepikcmfaaGreatW.PrintWords Go.Proofs.YtchjjoepikcmfaaGreatW.PrintLast Go.Proofs.YtchjjoepikcmfaaGreatW.PrintMore Go.Proofs.YtchjjoepikcmfaaGreat.Own
set_option linter.unusedVariables false
set_option linter.unusedSimpArgs false

def sizeOfNd (n : Nd) : Nat := if n.inner then n.ways.length else n.pairs.length
def leastOf (a : Int) (n : Nd) (root : Bool) : Int := if root then (if n.inner then 2 else 0) else a
/-- What is wrong with a node: 0 nothing, 1 it is tagged, 2 it has too few entries. -/
def wrongOf (a : Int) (n : Nd) (root : Bool) : Int := if n.tagged then 1 else if (sizeOfNd n : Int) < leastOf a n root then 2 else 0

set_option maxHeartbeats 4000000 in
set_option maxRecDepth 100000 in
theorem mend_look (a : Int) (n : Nd) (root : Bool) (Ap Ak Ay : Option Addr) (cp ck cy : Nat) (w : World) (hb1 : n.pairs.length < 1000000) (hb2 : n.ways.length < 1000000) :
    Calls Tryz.prog 13 #[.int .i64 a, .agg #[.bool n.inner, .bool n.tagged, .slice Ap n.pairs.length cp, .slice Ak n.keys.length ck, .slice Ay n.ways.length cy], .bool root] w fun e w1 => e = .returned (.int .u8 (wrongOf a n root)) ∧ Below w.heap.size w w1 := by
  have HB := Aside0.mk (below_alloc (Below.refl w.heap.size w) (.cells #[.bool n.inner, .bool n.tagged, .slice Ap n.pairs.length cp, .slice Ak n.keys.length ck, .slice Ay n.ways.length cy] 29))
  cases hi : n.inner
  all_goals cases ht : n.tagged
  all_goals cases root
  all_goals
    rw [hi, ht] at HB
    have hw : ∀ rt, wrongOf a n rt = wrongOf a n rt := fun _ => rfl
    have HI := Aside0.mk hi
    have HT := Aside0.mk ht
    clear hi ht hw
    go_enter Tryz.func13, Tryz.ntmps13
    go_wp2_with fail
  all_goals
    go_ret
    refine ⟨ret_int ?_, HB.out⟩
    simp only [wrongOf, sizeOfNd, leastOf, HI.out, HT.out, if_true, Bool.false_eq_true, if_false] <;> first
      | rfl
      | (rw [if_pos (by omega)]; done)
      | (rw [if_neg (by omega)]; done)

def TMend6 : Bool × List (List Nat × List Nat) := (true, [([], []), ([], []), ([1], [1]), ([2], [2]), ([3], [3]), ([4], [4]), ([], []), ([], []), ([6, 7], [6, 7]), ([8], [8]), ([9], [9]), ([], []), ([11], [11]), ([5, 10, 12], [5, 10, 12]), ([0, 13, 0], [0]), ([13, 14, 0, 1, 2, 3, 4, 5, 6, 7, 8, 9, 10, 11, 12, 13, 14], [13])])
def BMend6 : List Nat := [0, 0, 2, 6, 14, 30, 0, 0, 192, 448, 960, 0, 2048, 8190, 16383, 32767]
theorem tabMend6 : rtab .any (opsOf Tryz.f73 6) = TMend6 := by kernel_rfl
theorem bitsMend6 : waitsOk TMend6.2 BMend6 = true := by kernel_rfl
/-- The first that is wrong on a way: where, and what (0: nothing). -/
def firstWrong (a : Int) : List Stp → Nat → Option (Nat × Int)
  | [], _ => none
  | s :: l, i => if wrongOf a s.node (i == 1) = 0 then firstWrong a l (i + 1) else some (i, wrongOf a s.node (i == 1))
/-- Nothing is wrong with those from 1 up to k. -/
def rightTo (a : Int) (l : List Stp) (k : Nat) : Prop := ∀ i s, 1 ≤ i → i < k → l[i]? = some s → wrongOf a s.node (i == 1) = 0

/-- The cells of a step. -/
theorem kStp_cells {w : World} {s : Stp} {c : List Value} (h : kStp.K w s c) : ∃ Ap cp Ak ck Ay cy, c = [.int .i64 s.ref, .bool s.node.inner, .bool s.node.tagged, .slice Ap s.node.pairs.length cp, .slice Ak s.node.keys.length ck, .slice Ay s.node.ways.length cy, .int .i64 s.way] := by
  obtain ⟨_, _, rfl, rfl, _, _, rfl, ⟨_, _, rfl, rfl, _, _, rfl, rfl, _, _, rfl, ⟨Ap, cp, rfl, _⟩, _, _, rfl, ⟨Ak, ck, rfl, _⟩, ⟨Ay, cy, rfl, _⟩⟩, rfl⟩ := h
  exact ⟨Ap, cp, Ak, ck, Ay, cy, rfl⟩
/-- In the midst of a look at a way. -/
structure MendAt (p tb : Nat) (work : Value) (me : Int) (bt : Nat) (ok : Nat → Prop) (w : World) (ok1 : Nat → Prop) (s1 : TS Ws) (l : List Stp) (v : Value) (wr : World) : Prop where
  run : IsRun (shW p) tb work ok1 s1 wr
  moves : Moves ok ok1 w wr
  box : wr.heap[bt]? = some (taskO tb p me)
  far : ¬ ok1 bt
  row : kStp.R 103 wr 0 (fun k => ¬ ok1 k) v l
theorem MendAt.below {p tb : Nat} {work : Value} {me : Int} {bt : Nat} {ok : Nat → Prop} {w : World} {ok1 : Nat → Prop} {s1 : TS Ws} {l : List Stp} {v : Value} {wr w2 : World} (h : MendAt p tb work me bt ok w ok1 s1 l v wr) (hb : Below wr.heap.size wr w2) : MendAt p tb work me bt ok w ok1 s1 l v w2 :=
  ⟨h.run.below (shW_shared p) hb, h.moves.below hb, blk_below h.box hb, h.far, Kd.R_below h.row hb⟩

set_option maxHeartbeats 4000000 in
set_option maxRecDepth 100000 in
/-- Where nothing is wrong on the way: it tells so. -/
theorem mend_right (p tb : Nat) (work : Value) (me key : Int) (ok : Nat → Prop) (s : TS Ws) (w : World) (h : IsRun (shW p) tb work ok s w) (f : Nat) (hf : f < 900000) (l : List Stp) (s1 : TS Ws) (hr : pathT key f s.sh.entry [] s = some (.ret l, s1)) (hl : l.length < 1000000) (hsm : ∀ (i : Nat) (q : Stp), l[i]? = some q → q.node.Small) (hw : rightTo s1.sh.a l l.length) :
    Calls Tryz.prog 73 #[taskV tb p me, .int .i64 key] w (TPost (shW p) tb work VBool ok w (.ret false, s1)) := by
  have h1 := h.below (shW_shared p) (below_alloc (Below.refl _ _) (taskO tb p me))
  have HN : Aside0 (¬ ok w.heap.size) := ⟨fun hk => by have := h.lt (shW_shared p) _ hk; omega⟩
  have HI := Aside0.mk h1
  have HM := Aside0.mk ((Moves.refl ok w).alloc (taskO tb p me))
  have HB := Aside0.mk (blk_new w (taskO tb p me))
  have HR := Aside0.mk hr
  have HW := Aside0.mk hw
  have HSM := Aside0.mk hsm
  have HLL := Aside0.mk hl
  unfold taskO at HI HM HB
  have HTV : taskV tb p me = .agg #[.pointer (some ⟨tb, 0, none⟩), .pointer (some ⟨p, 0, none⟩), .int .i64 me] := rfl
  rw [HTV]
  clear h h1 hr hw hsm hl HTV
  go_enter Tryz.func73, Tryz.ntmps73
  go_upto_region 1 with fail
  refine wp_loop_rounds 1 ?_
  rw [rounds_succ]
  generalize w.alloc (.cells #[.pointer (some ⟨tb, 0, none⟩), .pointer (some ⟨p, 0, none⟩), .int .i64 me] 99) = w1 at HI HM HB ⊢
  generalize hbb : w.heap.size = bt at HN HB ⊢
  have c0 := (blk_cell HB.out 0).trans (rfl : _ = some (Value.pointer (some ⟨tb, 0, none⟩)))
  have c1 := (blk_cell HB.out 1).trans (rfl : _ = some (Value.pointer (some ⟨p, 0, none⟩)))
  have c2 := (blk_cell HB.out 2).trans (rfl : _ = some (Value.int .i64 me))
  go_upto_region 2 with (go_at_call 58; refine (path_calls p tb work me key ok s _ HI.out f hf (.ret l, s1) HR.out).mono ?_; rintro e w2 ⟨ok1, hm, hi, v, rfl, hv⟩; obtain ⟨A, c, rfl⟩ := Kd.R_slice hv; have M2 := Aside0.mk (HM.out.trans hm); have I2 := Aside0.mk hi; have V2 := Aside0.mk hv; have B2 := Aside0.mk ((hm.block bt (blk_lt HB.out) HN.out).trans HB.out); have N2 : Aside0 (¬ ok1 bt) := ⟨fun h => (hm.fresh bt h).elim HN.out (fun h2 => by have := blk_lt HB.out; omega)⟩; clear hm hi hv)
  clear c0 c1 c2 HI HM HB HN
  have HE0 : Aside0 (MendAt p tb work me bt ok w ok1 s1 l (.slice A l.length c) w2) := ⟨⟨I2.out, M2.out, B2.out, N2.out, V2.out⟩⟩
  clear M2 I2 V2 B2 N2
  go_wp2_with fail
  go_loopw [6, 7, 8] (fun at_ what i wr => ∃ (k : Nat) (z : Int), 1 ≤ k ∧ i = .int .i64 k ∧ at_ = .int .i64 z ∧ what = .int .u8 0 ∧ (k = 1 ∨ k ≤ l.length) ∧ Aside0 (MendAt p tb work me bt ok w ok1 s1 l (.slice A l.length c) wr)) (fun _ _ i _ => l.length - (intOf i).toNat)
  case atStart => exact ⟨1, 0, Nat.le_refl _, rfl, rfl, rfl, .inl rfl, HE0⟩
  case round =>
    obtain ⟨k, z, hk1, rfl, rfl, rfl, hkl, HE⟩ := hrel
    clear HE0
    by_cases hlt : k < l.length
    · have d1 : decide ((k : Int) < (l.length : Int)) = true := decide_eq_true (by omega)
      have d2 : decide (k < l.length) = true := decide_eq_true hlt
      obtain ⟨q, hq⟩ : ∃ q, l[k]? = some q := ⟨l[k], List.getElem?_eq_getElem hlt⟩
      have HQ := Aside0.mk hq
      have HQS := Aside0.mk (HSM.out k q hq)
      have HQW : Aside0 (wrongOf s1.sh.a q.node ((k : Int) == 1) = 0) := ⟨by
        have := HW.out k q hk1 hlt hq
        have e : ((k : Int) == 1) = (k == 1) := by rw [Bool.eq_iff_iff]; simp; omega
        rw [e]; exact this⟩
      have hR := HE.out.row
      obtain ⟨g, rfl⟩ : ∃ g, A = some ⟨g, 0, none⟩ := by
        obtain ⟨g, cap, e1, _⟩ := Kd.R_form hR (by omega)
        injection e1 with e1 _ _
        exact ⟨g, e1⟩
      obtain ⟨cs, _, hM, hcc, _⟩ := Kd.R_elem hR q (k : Int) (by omega) (by omega)
      have hg : l.getD (k : Int).toNat q = q := by simp [List.getD_eq_getElem?_getD, hq]
      rw [hg] at hM
      obtain ⟨Ap, cp, Ak, ck, Ay, cy, rfl⟩ := kStp_cells (kStp.K_of_M hM)
      rw [show kStp.sz = 7 from rfl, Int.toNat_natCast] at hcc
      obtain ⟨_, hds, ⟨⟨_, _, _, _, _, _, hwa⟩, _⟩, _⟩ := HE.out.run.direct
      have HC := Aside0.mk (And.intro ((blk_cell HE.out.box 1).trans (rfl : _ = some (Value.pointer (some ⟨p, 0, none⟩)))) (And.intro ((blk_cell hwa.box 3).trans (rfl : _ = some (Value.int .i64 s1.sh.a))) (And.intro (hcc 1 _ rfl) (And.intro (hcc 2 _ rfl) (And.intro (hcc 3 _ rfl) (And.intro (hcc 4 _ rfl) (hcc 5 _ rfl)))))))
      have b0 : (0 : Int) ≤ (k : Int) := by omega
      have b1 : (k : Int) < (l.length : Int) := by omega
      clear hR hcc hM hwa hds hg hq
      go_upto_region 6 with fail
      refine start_ (n := 16) (S := fun w' => w'.cell? ⟨bt, 1, none⟩ = some (.pointer (some ⟨p, 0, none⟩)) ∧ w'.cell? ⟨p, 3, none⟩ = some (.int .i64 s1.sh.a) ∧ w'.cell? ⟨g, k * 7 + 1, none⟩ = some (.bool q.node.inner) ∧ w'.cell? ⟨g, k * 7 + 1 + 1, none⟩ = some (.bool q.node.tagged) ∧ w'.cell? ⟨g, k * 7 + 1 + 2, none⟩ = some (.slice Ap q.node.pairs.length cp) ∧ w'.cell? ⟨g, k * 7 + 1 + 3, none⟩ = some (.slice Ak q.node.keys.length ck) ∧ w'.cell? ⟨g, k * 7 + 1 + 4, none⟩ = some (.slice Ay q.node.ways.length cy)) (ds := [13]) #[false, false, false, false, false, false, false, false, false, false, false, false, false, false, false, false] (by kernel_rfl) rfl rfl HC.out (fun hHeld => ?_); refine with_tabW tabMend6 bitsMend6 (fun HT_ HW_ => ?_)
      have HE := Aside0.mk (HE.out.below (below_drew (Below.refl _ _)))
      clear HC
      generalize World.drew _ = w3 at HE hHeld ⊢
      refine pure_ (i := 0) (N := (some 25)) (v := ?_) (a' := ?_) #[true, false, false, false, false, false, false, false, false, false, false, false, false, false, false, false] rfl rfl (any_of HT_.out (by kernel_rfl)) (fun _ _ _ h => h) (Or.inl ⟨by rfl, ?_⟩) ?_ ?_
      rotate_left
      · intro w'
        go_simp
        with_reducible rfl
      rotate_left
      · simp only [Act.put, List.setIfInBounds_toArray, List.set_cons_zero, List.set_cons_succ, i64_w, i32_w]
        rfl
      refine pure_ (i := 1) (N := (some 26)) (v := ?_) (a' := ?_) #[true, true, false, false, false, false, false, false, false, false, false, false, false, false, false, false] rfl rfl (any_of HT_.out (by kernel_rfl)) (fun _ _ _ h => h) (Or.inl ⟨by rfl, ?_⟩) ?_ ?_
      rotate_left
      · intro w'
        go_simp
        with_reducible rfl
      rotate_left
      · simp only [Act.put, List.setIfInBounds_toArray, List.set_cons_zero, List.set_cons_succ, i64_w, i32_w]
        rfl
      refine take_ (i := 2) (N := (some 27)) (v := ?_) (a' := ?_) #[true, true, true, false, false, false, false, false, false, false, false, false, false, false, false, false] rfl rfl (take_ofW HT_.out HW_.out (by kernel_rfl)) (fun _ _ _ h => h) (Or.inl ⟨by rfl, ?_⟩) hHeld ?_ ?_
      rotate_left
      · rintro w' ⟨y0, y1, y2, y3, y4, y5, y6⟩
        go_simp
        with_reducible rfl
      rotate_left
      · simp only [Act.put, List.setIfInBounds_toArray, List.set_cons_zero, List.set_cons_succ, i64_w, i32_w]
        rfl
      refine pure_ (i := 3) (N := (some 28)) (v := ?_) (a' := ?_) #[true, true, true, true, false, false, false, false, false, false, false, false, false, false, false, false] rfl rfl (any_of HT_.out (by kernel_rfl)) (fun _ _ _ h => h) (Or.inl ⟨by rfl, ?_⟩) ?_ ?_
      rotate_left
      · intro w'
        go_simp
        with_reducible rfl
      rotate_left
      · simp only [Act.put, List.setIfInBounds_toArray, List.set_cons_zero, List.set_cons_succ, i64_w, i32_w]
        rfl
      refine pure_ (i := 4) (N := (some 29)) (v := ?_) (a' := ?_) #[true, true, true, true, true, false, false, false, false, false, false, false, false, false, false, false] rfl rfl (any_of HT_.out (by kernel_rfl)) (fun _ _ _ h => h) (Or.inl ⟨by rfl, ?_⟩) ?_ ?_
      rotate_left
      · intro w'
        go_simp
        with_reducible rfl
      rotate_left
      · simp only [Act.put, List.setIfInBounds_toArray, List.set_cons_zero, List.set_cons_succ, i64_w, i32_w]
        rfl
      refine take_ (i := 5) (N := (some 30)) (v := ?_) (a' := ?_) #[true, true, true, true, true, true, false, false, false, false, false, false, false, false, false, false] rfl rfl (take_ofW HT_.out HW_.out (by kernel_rfl)) (fun _ _ _ h => h) (Or.inl ⟨by rfl, ?_⟩) hHeld ?_ ?_
      rotate_left
      · rintro w' ⟨y0, y1, y2, y3, y4, y5, y6⟩
        go_simp
        with_reducible rfl
      rotate_left
      · simp only [Act.put, List.setIfInBounds_toArray, List.set_cons_zero, List.set_cons_succ, i64_w, i32_w]
        rfl
      refine pure_ (i := 6) (N := (some 31)) (v := ?_) (a' := ?_) #[true, true, true, true, true, true, true, false, false, false, false, false, false, false, false, false] rfl rfl (any_of HT_.out (by kernel_rfl)) (fun _ _ _ h => h) (Or.inl ⟨by rfl, ?_⟩) ?_ ?_
      rotate_left
      · intro w'
        go_simp
        with_reducible rfl
      rotate_left
      · simp only [Act.put, List.setIfInBounds_toArray, List.set_cons_zero, List.set_cons_succ, i64_w, i32_w]
        rfl
      refine pure_ (i := 7) (N := (some 32)) (v := ?_) (a' := ?_) #[true, true, true, true, true, true, true, true, false, false, false, false, false, false, false, false] rfl rfl (any_of HT_.out (by kernel_rfl)) (fun _ _ _ h => h) (Or.inl ⟨by rfl, ?_⟩) ?_ ?_
      rotate_left
      · intro w'
        go_simp
        with_reducible rfl
      rotate_left
      · simp only [Act.put, List.setIfInBounds_toArray, List.set_cons_zero, List.set_cons_succ, i64_w, i32_w]
        rfl
      refine pure_ (i := 8) (N := (some 33)) (v := ?_) (a' := ?_) #[true, true, true, true, true, true, true, true, true, false, false, false, false, false, false, false] rfl rfl (any_of HT_.out (by kernel_rfl)) (fun _ _ _ h => h) (Or.inl ⟨by rfl, ?_⟩) ?_ ?_
      rotate_left
      · intro w'
        go_simp
        with_reducible rfl
      rotate_left
      · simp only [Act.put, List.setIfInBounds_toArray, List.set_cons_zero, List.set_cons_succ, i64_w, i32_w]
        rfl
      refine pure_ (i := 9) (N := (some 34)) (v := ?_) (a' := ?_) #[true, true, true, true, true, true, true, true, true, true, false, false, false, false, false, false] rfl rfl (any_of HT_.out (by kernel_rfl)) (fun _ _ _ h => h) (Or.inl ⟨by rfl, ?_⟩) ?_ ?_
      rotate_left
      · intro w'
        go_simp
        with_reducible rfl
      rotate_left
      · simp only [Act.put, List.setIfInBounds_toArray, List.set_cons_zero, List.set_cons_succ, i64_w, i32_w]
        rfl
      refine take_ (i := 10) (N := (some 35)) (v := ?_) (a' := ?_) #[true, true, true, true, true, true, true, true, true, true, true, false, false, false, false, false] rfl rfl (take_ofW HT_.out HW_.out (by kernel_rfl)) (fun _ _ _ h => h) (Or.inl ⟨by rfl, ?_⟩) hHeld ?_ ?_
      rotate_left
      · rintro w' ⟨y0, y1, y2, y3, y4, y5, y6⟩
        go_simp
        with_reducible rfl
      rotate_left
      · simp only [Act.put, List.setIfInBounds_toArray, List.set_cons_zero, List.set_cons_succ, i64_w, i32_w]
        rfl
      refine pure_ (i := 11) (N := (some 36)) (v := ?_) (a' := ?_) #[true, true, true, true, true, true, true, true, true, true, true, true, false, false, false, false] rfl rfl (any_of HT_.out (by kernel_rfl)) (fun _ _ _ h => h) (Or.inl ⟨by rfl, ?_⟩) ?_ ?_
      rotate_left
      · intro w'
        go_simp
        with_reducible rfl
      rotate_left
      · simp only [Act.put, List.setIfInBounds_toArray, List.set_cons_zero, List.set_cons_succ, i64_w, i32_w]
        rfl
      refine pure_ (i := 12) (N := (some 37)) (v := ?_) (a' := ?_) #[true, true, true, true, true, true, true, true, true, true, true, true, true, false, false, false] rfl rfl (any_of HT_.out (by kernel_rfl)) (fun _ _ _ h => h) (Or.inl ⟨by rfl, ?_⟩) ?_ ?_
      rotate_left
      · intro w'
        go_simp
        with_reducible rfl
      rotate_left
      · simp only [Act.put, List.setIfInBounds_toArray, List.set_cons_zero, List.set_cons_succ, i64_w, i32_w]
        rfl
      refine last_ (i := 13) (N := (some 38)) #[true, true, true, true, true, true, true, true, true, true, true, true, true, true, false, false] rfl rfl (one_of HT_.out (by kernel_rfl)) (by decide) (fun K_ hK => ?_)
      refine call_ 13 #[.int .i64 s1.sh.a, .agg #[.bool q.node.inner, .bool q.node.tagged, .slice Ap q.node.pairs.length cp, .slice Ak q.node.keys.length ck, .slice Ay q.node.ways.length cy], .bool ((k : Int) == 1)] (by rfl) rfl ?hrun13 ?_
      (case hrun13 => first | (go_simp; done) | (go_simp; exact enters Tryz.func13 (by kernel_rfl) rfl _ _))
      refine (mend_look s1.sh.a q.node ((k : Int) == 1) Ap Ak Ay cp ck cy _ HQS.out.pairs HQS.out.ways).mono ?_
      rintro e w4 ⟨rfl, hb4⟩
      have HE4 := Aside0.mk (HE.out.below hb4)
      clear hb4
      refine ⟨_, rfl, ?_⟩
      refine hK.out _ _ ?_
      clear hK K_
      refine norm_ (a' := ?_) ?_ ?_
      rotate_left
      · show Act.put _ (some 38) _ = _
        simp only [Act.put, List.setIfInBounds_toArray, List.set_cons_zero, List.set_cons_succ, i64_w, i32_w]
        rfl
      refine pure_ (i := 14) (N := (some 6)) (v := ?_) (a' := ?_) #[true, true, true, true, true, true, true, true, true, true, true, true, true, true, true, false] rfl rfl (any_of HT_.out (by kernel_rfl)) (fun _ _ _ h => h) (Or.inl ⟨by rfl, ?_⟩) ?_ ?_
      rotate_left
      · intro w'
        go_simp
        with_reducible rfl
      rotate_left
      · simp only [Act.put, List.setIfInBounds_toArray, List.set_cons_zero, List.set_cons_succ, i64_w, i32_w]
        rfl
      refine pure_ (i := 15) (N := (some 7)) (v := ?_) (a' := ?_) #[true, true, true, true, true, true, true, true, true, true, true, true, true, true, true, true] rfl rfl (any_of HT_.out (by kernel_rfl)) (fun _ _ _ h => h) (Or.inl ⟨by rfl, ?_⟩) ?_ ?_
      rotate_left
      · intro w'
        go_simp
        with_reducible rfl
      rotate_left
      · simp only [Act.put, List.setIfInBounds_toArray, List.set_cons_zero, List.set_cons_succ, i64_w, i32_w]
        rfl
      refine done_ (done_of HT_.out (by kernel_rfl)) ?_
      rw [HQW.out]
      clear hHeld
      have HE := HE4
      clear HE4
      have hb5 : (k : Int) + 1 ≤ 9000000 := by have := HLL.out; omega
      go_wp2_with fail
      go_roundw
      case rel => exact ⟨k + 1, _, by omega, by go_num, rfl, rfl, .inr (by omega), HE⟩
      case measure => simp [intOf]; omega
    · have d1 : decide ((k : Int) < (l.length : Int)) = false := decide_eq_false (by omega)
      have d2 : decide (k < l.length) = false := decide_eq_false hlt
      go_wp2_with fail
      go_ret
      exact ⟨⟨ok1, HE.out.moves, HE.out.run, _, rfl, rfl⟩⟩

set_option maxHeartbeats 4000000 in
set_option maxRecDepth 100000 in
/-- Where the way waits: it waits. -/
theorem mend_wait (p tb : Nat) (work : Value) (me key : Int) (ok : Nat → Prop) (s : TS Ws) (w : World) (h : IsRun (shW p) tb work ok s w) (f : Nat) (hf : f < 900000) (s1 : TS Ws) (hr : pathT key f s.sh.entry [] s = some (.wait, s1)) :
    Calls Tryz.prog 73 #[taskV tb p me, .int .i64 key] w (TPost (shW p) tb work VBool ok w (.wait, s1)) := by
  have h1 := h.below (shW_shared p) (below_alloc (Below.refl _ _) (taskO tb p me))
  have HI := Aside0.mk h1
  have HM := Aside0.mk ((Moves.refl ok w).alloc (taskO tb p me))
  have HB := Aside0.mk (blk_new w (taskO tb p me))
  have HR := Aside0.mk hr
  unfold taskO at HI HM HB
  have HTV : taskV tb p me = .agg #[.pointer (some ⟨tb, 0, none⟩), .pointer (some ⟨p, 0, none⟩), .int .i64 me] := rfl
  rw [HTV]
  clear h h1 hr HTV
  go_enter Tryz.func73, Tryz.ntmps73
  go_upto_region 1 with fail
  refine wp_loop_rounds 1 ?_
  rw [rounds_succ]
  generalize w.alloc (.cells #[.pointer (some ⟨tb, 0, none⟩), .pointer (some ⟨p, 0, none⟩), .int .i64 me] 99) = w1 at HI HM HB ⊢
  generalize hbb : w.heap.size = bt at HB ⊢
  have c0 := (blk_cell HB.out 0).trans (rfl : _ = some (Value.pointer (some ⟨tb, 0, none⟩)))
  have c1 := (blk_cell HB.out 1).trans (rfl : _ = some (Value.pointer (some ⟨p, 0, none⟩)))
  have c2 := (blk_cell HB.out 2).trans (rfl : _ = some (Value.int .i64 me))
  go_wp2_with fail
  refine (path_calls p tb work me key ok s _ HI.out f hf (.wait, s1) HR.out).mono ?_
  rintro e w2 ⟨ok1, hm, hi, hres⟩
  obtain rfl : e = .panicked waitP := hres
  exact ⟨rfl, ⟨⟨ok1, HM.out.trans hm, hi, rfl⟩⟩⟩

/-- mend.Path, where nothing is to be fixed. -/
def mendT0 (key : Int) (f : Nat) : Pr Ws Bool := fun s => match pathT key f s.sh.entry [] s with
  | none => none
  | some (.wait, s1) => some (.wait, s1)
  | some (.ret l, s1) => if l.length < 1000000 ∧ (l.all fun q => decide (q.node.pairs.length < 1000000) && decide (q.node.keys.length < 1000000) && decide (q.node.ways.length < 1000000)) = true ∧ (firstWrong s1.sh.a (l.drop 1) 1).isNone = true then some (.ret false, s1) else none
theorem firstWrong_none {a : Int} : ∀ (l : List Stp) (i : Nat), (firstWrong a l i).isNone = true → ∀ (j : Nat) (s : Stp), l[j]? = some s → wrongOf a s.node (i + j == 1) = 0
  | [], _, _, _, _, h => by simp at h
  | q :: l, i, hn, j, s, h => by
    unfold firstWrong at hn
    by_cases hw : wrongOf a q.node (i == 1) = 0
    · rw [if_pos hw] at hn
      cases j with
      | zero =>
        simp at h
        subst h
        exact hw
      | succ j =>
        have := firstWrong_none l (i + 1) hn j s (by simpa using h)
        rw [show i + (j + 1) = i + 1 + j by omega]
        exact this
    · rw [if_neg hw] at hn
      cases hn
theorem mend0_calls (p tb : Nat) (work : Value) (me key : Int) (ok : Nat → Prop) (s : TS Ws) (w : World) (h : IsRun (shW p) tb work ok s w) (f : Nat) (hf : f < 900000) (res : Out Bool × TS Ws) (hr : mendT0 key f s = some res) :
    Calls Tryz.prog 73 #[taskV tb p me, .int .i64 key] w (TPost (shW p) tb work VBool ok w res) := by
  unfold mendT0 at hr
  cases hp : pathT key f s.sh.entry [] s with
  | none => rw [hp] at hr; cases hr
  | some r =>
    obtain ⟨o, s1⟩ := r
    rw [hp] at hr
    cases o with
    | wait =>
      injection hr with hr
      subst hr
      exact mend_wait p tb work me key ok s w h f hf s1 hp
    | ret l =>
      simp only at hr
      by_cases hc : l.length < 1000000 ∧ (l.all fun q => decide (q.node.pairs.length < 1000000) && decide (q.node.keys.length < 1000000) && decide (q.node.ways.length < 1000000)) = true ∧ (firstWrong s1.sh.a (l.drop 1) 1).isNone = true
      · rw [if_pos hc] at hr
        injection hr with hr
        subst hr
        refine mend_right p tb work me key ok s w h f hf l s1 hp hc.1 (fun i q hq => ?_) (fun i q h1 h2 hq => ?_)
        · have := List.all_eq_true.1 hc.2.1 q (List.mem_of_getElem? hq)
          simp only [Bool.and_eq_true, decide_eq_true_eq] at this
          exact ⟨this.1.1, this.1.2, this.2⟩
        · have := firstWrong_none _ _ hc.2.2 (i - 1) q (by rw [List.getElem?_drop, show 1 + (i - 1) = i by omega]; exact hq)
          rwa [show 1 + (i - 1) = i by omega] at this
      · rw [if_neg hc] at hr
        cases hr
end Go.Proofs.YtchjjoepikcmfaaGreat.Tower
