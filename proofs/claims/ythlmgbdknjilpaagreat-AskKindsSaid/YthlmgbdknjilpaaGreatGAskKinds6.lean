/- Words and contracts that the claim stands on, part 7 of 7. -/
import Derived.Test.YthlmgbdknjilpaaGreatGAskKinds0
import Derived.Test.YthlmgbdknjilpaaGreatGAskKinds1
import Derived.Test.YthlmgbdknjilpaaGreatGAskKinds2
import Derived.Test.YthlmgbdknjilpaaGreatGAskKinds3
import Derived.Test.YthlmgbdknjilpaaGreatGAskKinds4
import Derived.Test.YthlmgbdknjilpaaGreatGAskKinds5
namespace Go.Proofs.YthlmgbdknjilpaaGreat.Tower
open Go Go.RowKit Go.Proofs.YthlmgbdknjilpaaGreatW.PrintWords Go.Proofs.YthlmgbdknjilpaaGreatW.PrintLast Go.Proofs.YthlmgbdknjilpaaGreatW.PrintMore Go.Proofs.YthlmgbdknjilpaaGreat.Own Go.Proofs.YthlmgbdknjilpaaGreat.PAskKinds
set_option linter.unusedVariables false
set_option linter.unusedSimpArgs false
def plantT (s : Sh) (x : Ws) : Option Ws :=
  (madeT s (x.ar.way x.entry 0).2).bind fun q =>
    let p := q.2.swapWay x.entry 0 (x.ar.way x.entry 0).1 q.1
    if x.ar.slots.length < 1000000 ∧ q.2.slots.length < 1000000 ∧ p.2.slots.length < 1000000 ∧ p.2.free.length < 1000000 then some { x with ar := (p.2.free_ (x.ar.way x.entry 0).1).2 } else none
def TPlant1 : Bool × List (List Nat × List Nat) := (true, [([], []), ([0], [0]), ([1], [1]), ([2], [2]), ([], []), ([4], [4]), ([5], [5]), ([6], [6]), ([3, 7], [3, 7]), ([8, 8, 0, 1, 2, 3, 4, 5, 6, 7, 8], [8])])
def BPlant1 : List Nat := [0, 1, 3, 7, 0, 16, 48, 112, 255, 511]
theorem tabPlant1 : rtab .any (opsOf Tryz.f60 1) = TPlant1 := by kernel_rfl
theorem bitsPlant1 : waitsOk TPlant1.2 BPlant1 = true := by kernel_rfl
def TPlant2 : Bool × List (List Nat × List Nat) := (true, [([], []), ([0], [0]), ([1], [1]), ([2], [2]), ([], []), ([4], [4]), ([5], [5]), ([6], [6]), ([], []), ([], []), ([9], [9]), ([10], [10]), ([11], [11]), ([], []), ([12, 13], [12, 13]), ([3, 7, 8, 14, 14], [3, 7, 8, 14])])
def BPlant2 : List Nat := [0, 1, 3, 7, 0, 16, 48, 112, 0, 0, 512, 1536, 3584, 0, 15872, 32767]
theorem tabPlant2 : rtab .any (opsOf Tryz.f60 2) = TPlant2 := by kernel_rfl
theorem bitsPlant2 : waitsOk TPlant2.2 BPlant2 = true := by kernel_rfl
theorem fk_world {α : Type} {d : Kd α} {ok okA okR okE : Nat → Prop} {p pA pR pE : Nat} {x : Ws} {w : World} {y : α} {cs : List Value} (h : d.FK w (fun k => ¬ ok k) y cs) (hw : WorldAt ok okA okR okE p pA pR pE x w) : d.FK w (fun k => ¬ okA k) y cs := Kd.FK_mono h (fun k hk h1 => hk ((hw.ok k).2 (.inr (.inl h1))))
set_option maxHeartbeats 4000000 in
set_option maxRecDepth 100000 in
theorem plant_calls {ok : Nat → Prop} {p : Nat} {x x1 : Ws} (s : Sh) (w : World) (cs : List Value) (h : IsWorld p x ok w) (hf : kSh.FK w (fun k => ¬ ok k) s cs) (hx : plantT s x = some x1) :
    Calls Tryz.prog 60 #[.pointer (some ⟨p, 0, none⟩), .agg cs.toArray] w (fun e w1 => e = .returned (.tuple #[]) ∧ ∃ ok1, IsWorld p x1 ok1 w1 ∧ Moves ok ok1 w w1) := by
  obtain ⟨okA, okR, okE, pA, pR, pE, h⟩ := h
  unfold plantT at hx
  obtain ⟨q, hq, hx⟩ := Option.bind_eq_some_iff.1 hx
  obtain ⟨r, a1⟩ := q
  simp only at hx
  split at hx
  rotate_left; · cases hx
  rename_i hl
  injection hx with hx
  have HX := Aside0.mk hx
  have HL := Aside0.mk (And.intro (show (x.ar).slots.length < 1000000 from hl.1) hl.2)
  have HQ := Aside0.mk hq
  obtain ⟨A2, c2, A3, c3, A4, c4, rfl, _⟩ := k42_openF hf
  have HFK := Aside0.mk hf
  have hW1 := (h.step (w1 := w.alloc (.cells #[.bool s.f0, .bool s.f1, .slice A2 s.f2.length c2, .slice A3 s.f3.length c3, .slice A4 s.f4.length c4] 42)) (by simp) (fun k _ hk => Below.heap_alloc _ _ _ hk))
  have hX1 := Mine.new (ok := ok) (fun k hk => h.lt k hk) (.cells #[.bool s.f0, .bool s.f1, .slice A2 s.f2.length c2, .slice A3 s.f3.length c3, .slice A4 s.f4.length c4] 42)
  have X1 := Aside0.mk hX1
  have W1 := Aside0.mk hW1
  have M1 := Aside0.mk ((Moves.refl ok w).alloc (.cells #[.bool s.f0, .bool s.f1, .slice A2 s.f2.length c2, .slice A3 s.f3.length c3, .slice A4 s.f4.length c4] 42))
  clear h hf hq hx hl hX1 hW1
  go_enter Tryz.func60, Tryz.ntmps60
  go_upto_region 1 with fail
  generalize w.alloc (.cells #[.bool s.f0, .bool s.f1, .slice A2 s.f2.length c2, .slice A3 s.f3.length c3, .slice A4 s.f4.length c4] 42) = w1 at X1 W1 M1 ⊢
  generalize w.heap.size = b3 at X1 ⊢
  have HC := Aside0.mk (show w1.cell? ⟨p, 0, none⟩ = some (.pointer (some ⟨pA, 0, none⟩)) ∧ w1.cell? ⟨p, 5, none⟩ = some (.int .i64 x.entry) ∧ w1.cell? ⟨b3, 0, none⟩ = some (.bool s.f0) ∧ w1.cell? ⟨b3, 1, none⟩ = some (.bool s.f1) ∧ w1.cell? ⟨b3, 2, none⟩ = some (.slice A2 s.f2.length c2) ∧ w1.cell? ⟨b3, 3, none⟩ = some (.slice A3 s.f3.length c3) ∧ w1.cell? ⟨b3, 4, none⟩ = some (.slice A4 s.f4.length c4) from ⟨(blk_cell (W1.out.box) 0).trans rfl, (blk_cell (W1.out.box) 5).trans rfl, (blk_cell (X1.out.1) 0).trans rfl, (blk_cell (X1.out.1) 1).trans rfl, (blk_cell (X1.out.1) 2).trans rfl, (blk_cell (X1.out.1) 3).trans rfl, (blk_cell (X1.out.1) 4).trans rfl⟩)
  refine start_ (n := 10) (S := fun w' => w'.cell? ⟨p, 0, none⟩ = some (.pointer (some ⟨pA, 0, none⟩)) ∧ w'.cell? ⟨p, 5, none⟩ = some (.int .i64 x.entry) ∧ w'.cell? ⟨b3, 0, none⟩ = some (.bool s.f0) ∧ w'.cell? ⟨b3, 1, none⟩ = some (.bool s.f1) ∧ w'.cell? ⟨b3, 2, none⟩ = some (.slice A2 s.f2.length c2) ∧ w'.cell? ⟨b3, 3, none⟩ = some (.slice A3 s.f3.length c3) ∧ w'.cell? ⟨b3, 4, none⟩ = some (.slice A4 s.f4.length c4)) (ds := []) #[N_,N_,N_,N_,N_,N_,N_,N_,N_,N_] (by kernel_rfl) rfl rfl HC.out (fun hHeld => ?_); refine with_tabW tabPlant1 bitsPlant1 (fun HT_ HW_ => ?_)
  have W2 := Aside0.mk (W1.out.step (w1 := w1.drew) (Nat.le_refl _) (fun _ _ _ => rfl))
  have M2 := Aside0.mk M1.out.drew
  have X2 := Aside0.mk (X1.out.moves (Moves.drew (Moves.refl _ _)))
  clear HC W1 M1 X1
  generalize w1.drew = w2 at W2 M2 X2 hHeld ⊢
  refine pure_ (i := 0) (N := (some 5)) (v := ?_) (a' := ?_) #[Y_,N_,N_,N_,N_,N_,N_,N_,N_,N_] rfl rfl (any_of HT_.out (by kernel_rfl)) (fun _ _ _ h => h) (Or.inl ⟨by rfl, ?_⟩) ?_ ?_
  rotate_left; · intro w'; go_simp; with_reducible rfl
  rotate_left; · simp only [Act.put, u1_, u2_, u3_, i64_w, i32_w]; rfl
  refine pure_ (i := 1) (N := (some 6)) (v := ?_) (a' := ?_) #[Y_,Y_,N_,N_,N_,N_,N_,N_,N_,N_] rfl rfl (any_of HT_.out (by kernel_rfl)) (fun _ _ _ h => h) (Or.inl ⟨by rfl, ?_⟩) ?_ ?_
  rotate_left; · intro w'; go_simp; with_reducible rfl
  rotate_left; · simp only [Act.put, u1_, u2_, u3_, i64_w, i32_w]; rfl
  refine pure_ (i := 2) (N := (some 7)) (v := ?_) (a' := ?_) #[Y_,Y_,Y_,N_,N_,N_,N_,N_,N_,N_] rfl rfl (any_of HT_.out (by kernel_rfl)) (fun _ _ _ h => h) (Or.inl ⟨by rfl, ?_⟩) ?_ ?_
  rotate_left; · intro w'; go_simp; with_reducible rfl
  rotate_left; · simp only [Act.put, u1_, u2_, u3_, i64_w, i32_w]; rfl
  refine take_ (i := 3) (N := (some 8)) (v := ?_) (a' := ?_) #[Y_,Y_,Y_,Y_,N_,N_,N_,N_,N_,N_] rfl rfl (take_ofW HT_.out HW_.out (by kernel_rfl)) (fun _ _ _ h => h) (Or.inl ⟨by rfl, ?_⟩) hHeld ?_ ?_
  rotate_left; · rintro w' ⟨s0, s1, s2, s3, s4, s5, s6⟩; go_simp; with_reducible rfl
  rotate_left; · simp only [Act.put, u1_, u2_, u3_, i64_w, i32_w]; rfl
  refine pure_ (i := 4) (N := (some 9)) (v := ?_) (a' := ?_) #[Y_,Y_,Y_,Y_,Y_,N_,N_,N_,N_,N_] rfl rfl (any_of HT_.out (by kernel_rfl)) (fun _ _ _ h => h) (Or.inl ⟨by rfl, ?_⟩) ?_ ?_
  rotate_left; · intro w'; go_simp; with_reducible rfl
  rotate_left; · simp only [Act.put, u1_, u2_, u3_, i64_w, i32_w]; rfl
  refine pure_ (i := 5) (N := (some 10)) (v := ?_) (a' := ?_) #[Y_,Y_,Y_,Y_,Y_,Y_,N_,N_,N_,N_] rfl rfl (any_of HT_.out (by kernel_rfl)) (fun _ _ _ h => h) (Or.inl ⟨by rfl, ?_⟩) ?_ ?_
  rotate_left; · intro w'; go_simp; with_reducible rfl
  rotate_left; · simp only [Act.put, u1_, u2_, u3_, i64_w, i32_w]; rfl
  refine pure_ (i := 6) (N := (some 11)) (v := ?_) (a' := ?_) #[Y_,Y_,Y_,Y_,Y_,Y_,Y_,N_,N_,N_] rfl rfl (any_of HT_.out (by kernel_rfl)) (fun _ _ _ h => h) (Or.inl ⟨by rfl, ?_⟩) ?_ ?_
  rotate_left; · intro w'; go_simp; with_reducible rfl
  rotate_left; · simp only [Act.put, u1_, u2_, u3_, i64_w, i32_w]; rfl
  refine take_ (i := 7) (N := (some 12)) (v := ?_) (a' := ?_) #[Y_,Y_,Y_,Y_,Y_,Y_,Y_,Y_,N_,N_] rfl rfl (take_ofW HT_.out HW_.out (by kernel_rfl)) (fun _ _ _ h => h) (Or.inl ⟨by rfl, ?_⟩) hHeld ?_ ?_
  rotate_left; · rintro w' ⟨s0, s1, s2, s3, s4, s5, s6⟩; go_simp; with_reducible rfl
  rotate_left; · simp only [Act.put, u1_, u2_, u3_, i64_w, i32_w]; rfl
  refine one_ (i := 8) (N := (some 13)) #[Y_,Y_,Y_,Y_,Y_,Y_,Y_,Y_,Y_,N_] rfl rfl (one_of HT_.out (by kernel_rfl)) (by decide) (fun K_ hK => ?_)
  refine call_ 44 #[.pointer (some ⟨pA, 0, none⟩), .int .i64 x.entry, .int .i64 0] (by rfl) rfl ?hrun8 ?_
  (case hrun8 => first | (go_simp; done) | (go_simp; exact enters Tryz.func44 (by kernel_rfl) rfl _ _))
  refine (way_calls x.entry 0 w2 W2.out.ar HL.out.1).mono ?_
  rintro e w3 ⟨rfl, hA3, hM3⟩
  have W3 := Aside0.mk (W2.out.ar_moves hA3 hM3).1
  have N3 := Aside0.mk (W2.out.ar_moves hA3 hM3).2
  have M3 := Aside0.mk (M2.out.trans N3.out)
  have X3 := Aside0.mk (X2.out.moves N3.out)
  clear hA3 hM3 W2 M2 X2 N3
  refine ⟨_, rfl, ?_⟩
  refine hK.out _ _ ⟨(blk_cell (W3.out.box) 0).trans rfl, (blk_cell (W3.out.box) 5).trans rfl, (blk_cell (X3.out.1) 0).trans rfl, (blk_cell (X3.out.1) 1).trans rfl, (blk_cell (X3.out.1) 2).trans rfl, (blk_cell (X3.out.1) 3).trans rfl, (blk_cell (X3.out.1) 4).trans rfl⟩ (fun hHeld => ?_)
  clear hK K_
  refine norm_ (a' := ?_) ?_ ?_
  rotate_left; · show Act.put _ (some 13) _ = _; simp only [Act.put, u1_, u2_, u3_, i64_w, i32_w]; rfl
  refine pure_ (i := 9) (N := (some 4)) (v := ?_) (a' := ?_) #[Y_,Y_,Y_,Y_,Y_,Y_,Y_,Y_,Y_,Y_] rfl rfl (any_of HT_.out (by kernel_rfl)) (fun _ _ _ h => h) (Or.inl ⟨by rfl, ?_⟩) ?_ ?_
  rotate_left; · intro w'; go_simp; with_reducible rfl
  rotate_left; · simp only [Act.put, u1_, u2_, u3_, i64_w, i32_w]; rfl
  refine done_ (done_of HT_.out (by kernel_rfl)) ?_
  have HC := Aside0.mk (show w3.cell? ⟨p, 0, none⟩ = some (.pointer (some ⟨pA, 0, none⟩)) ∧ w3.cell? ⟨p, 5, none⟩ = some (.int .i64 x.entry) ∧ w3.cell? ⟨b3, 0, none⟩ = some (.bool s.f0) ∧ w3.cell? ⟨b3, 1, none⟩ = some (.bool s.f1) ∧ w3.cell? ⟨b3, 2, none⟩ = some (.slice A2 s.f2.length c2) ∧ w3.cell? ⟨b3, 3, none⟩ = some (.slice A3 s.f3.length c3) ∧ w3.cell? ⟨b3, 4, none⟩ = some (.slice A4 s.f4.length c4) from ⟨(blk_cell (W3.out.box) 0).trans rfl, (blk_cell (W3.out.box) 5).trans rfl, (blk_cell (X3.out.1) 0).trans rfl, (blk_cell (X3.out.1) 1).trans rfl, (blk_cell (X3.out.1) 2).trans rfl, (blk_cell (X3.out.1) 3).trans rfl, (blk_cell (X3.out.1) 4).trans rfl⟩)
  go_upto_region 2 with fail
  refine start_ (n := 16) (S := fun w' => w'.cell? ⟨p, 0, none⟩ = some (.pointer (some ⟨pA, 0, none⟩)) ∧ w'.cell? ⟨p, 5, none⟩ = some (.int .i64 x.entry) ∧ w'.cell? ⟨b3, 0, none⟩ = some (.bool s.f0) ∧ w'.cell? ⟨b3, 1, none⟩ = some (.bool s.f1) ∧ w'.cell? ⟨b3, 2, none⟩ = some (.slice A2 s.f2.length c2) ∧ w'.cell? ⟨b3, 3, none⟩ = some (.slice A3 s.f3.length c3) ∧ w'.cell? ⟨b3, 4, none⟩ = some (.slice A4 s.f4.length c4)) (ds := []) #[N_,N_,N_,N_,N_,N_,N_,N_,N_,N_,N_,N_,N_,N_,N_,N_] (by kernel_rfl) rfl rfl HC.out (fun hHeld => ?_); refine with_tabW tabPlant2 bitsPlant2 (fun HT_ HW_ => ?_)
  have W4 := Aside0.mk (W3.out.step (w1 := w3.drew) (Nat.le_refl _) (fun _ _ _ => rfl))
  have M4 := Aside0.mk M3.out.drew
  have X4 := Aside0.mk (X3.out.moves (Moves.drew (Moves.refl _ _)))
  clear HC W3 M3 X3
  generalize w3.drew = w4 at W4 M4 X4 hHeld ⊢
  refine pure_ (i := 0) (N := (some 14)) (v := ?_) (a' := ?_) #[Y_,N_,N_,N_,N_,N_,N_,N_,N_,N_,N_,N_,N_,N_,N_,N_] rfl rfl (any_of HT_.out (by kernel_rfl)) (fun _ _ _ h => h) (Or.inl ⟨by rfl, ?_⟩) ?_ ?_
  rotate_left; · intro w'; go_simp; with_reducible rfl
  rotate_left; · simp only [Act.put, u1_, u2_, u3_, i64_w, i32_w]; rfl
  refine pure_ (i := 1) (N := (some 15)) (v := ?_) (a' := ?_) #[Y_,Y_,N_,N_,N_,N_,N_,N_,N_,N_,N_,N_,N_,N_,N_,N_] rfl rfl (any_of HT_.out (by kernel_rfl)) (fun _ _ _ h => h) (Or.inl ⟨by rfl, ?_⟩) ?_ ?_
  rotate_left; · intro w'; go_simp; with_reducible rfl
  rotate_left; · simp only [Act.put, u1_, u2_, u3_, i64_w, i32_w]; rfl
  refine pure_ (i := 2) (N := (some 16)) (v := ?_) (a' := ?_) #[Y_,Y_,Y_,N_,N_,N_,N_,N_,N_,N_,N_,N_,N_,N_,N_,N_] rfl rfl (any_of HT_.out (by kernel_rfl)) (fun _ _ _ h => h) (Or.inl ⟨by rfl, ?_⟩) ?_ ?_
  rotate_left; · intro w'; go_simp; with_reducible rfl
  rotate_left; · simp only [Act.put, u1_, u2_, u3_, i64_w, i32_w]; rfl
  refine take_ (i := 3) (N := (some 17)) (v := ?_) (a' := ?_) #[Y_,Y_,Y_,Y_,N_,N_,N_,N_,N_,N_,N_,N_,N_,N_,N_,N_] rfl rfl (take_ofW HT_.out HW_.out (by kernel_rfl)) (fun _ _ _ h => h) (Or.inl ⟨by rfl, ?_⟩) hHeld ?_ ?_
  rotate_left; · rintro w' ⟨s0, s1, s2, s3, s4, s5, s6⟩; go_simp; with_reducible rfl
  rotate_left; · simp only [Act.put, u1_, u2_, u3_, i64_w, i32_w]; rfl
  refine pure_ (i := 4) (N := (some 18)) (v := ?_) (a' := ?_) #[Y_,Y_,Y_,Y_,Y_,N_,N_,N_,N_,N_,N_,N_,N_,N_,N_,N_] rfl rfl (any_of HT_.out (by kernel_rfl)) (fun _ _ _ h => h) (Or.inl ⟨by rfl, ?_⟩) ?_ ?_
  rotate_left; · intro w'; go_simp; with_reducible rfl
  rotate_left; · simp only [Act.put, u1_, u2_, u3_, i64_w, i32_w]; rfl
  refine pure_ (i := 5) (N := (some 19)) (v := ?_) (a' := ?_) #[Y_,Y_,Y_,Y_,Y_,Y_,N_,N_,N_,N_,N_,N_,N_,N_,N_,N_] rfl rfl (any_of HT_.out (by kernel_rfl)) (fun _ _ _ h => h) (Or.inl ⟨by rfl, ?_⟩) ?_ ?_
  rotate_left; · intro w'; go_simp; with_reducible rfl
  rotate_left; · simp only [Act.put, u1_, u2_, u3_, i64_w, i32_w]; rfl
  refine pure_ (i := 6) (N := (some 20)) (v := ?_) (a' := ?_) #[Y_,Y_,Y_,Y_,Y_,Y_,Y_,N_,N_,N_,N_,N_,N_,N_,N_,N_] rfl rfl (any_of HT_.out (by kernel_rfl)) (fun _ _ _ h => h) (Or.inl ⟨by rfl, ?_⟩) ?_ ?_
  rotate_left; · intro w'; go_simp; with_reducible rfl
  rotate_left; · simp only [Act.put, u1_, u2_, u3_, i64_w, i32_w]; rfl
  refine take_ (i := 7) (N := (some 21)) (v := ?_) (a' := ?_) #[Y_,Y_,Y_,Y_,Y_,Y_,Y_,Y_,N_,N_,N_,N_,N_,N_,N_,N_] rfl rfl (take_ofW HT_.out HW_.out (by kernel_rfl)) (fun _ _ _ h => h) (Or.inl ⟨by rfl, ?_⟩) hHeld ?_ ?_
  rotate_left; · rintro w' ⟨s0, s1, s2, s3, s4, s5, s6⟩; go_simp; with_reducible rfl
  rotate_left; · simp only [Act.put, u1_, u2_, u3_, i64_w, i32_w]; rfl
  refine pure_ (i := 8) (N := (some 22)) (v := ?_) (a' := ?_) #[Y_,Y_,Y_,Y_,Y_,Y_,Y_,Y_,Y_,N_,N_,N_,N_,N_,N_,N_] rfl rfl (any_of HT_.out (by kernel_rfl)) (fun _ _ _ h => h) (Or.inl ⟨by rfl, ?_⟩) ?_ ?_
  rotate_left; · intro w'; go_simp; with_reducible rfl
  rotate_left; · simp only [Act.put, u1_, u2_, u3_, i64_w, i32_w]; rfl
  refine pure_ (i := 9) (N := (some 23)) (v := ?_) (a' := ?_) #[Y_,Y_,Y_,Y_,Y_,Y_,Y_,Y_,Y_,Y_,N_,N_,N_,N_,N_,N_] rfl rfl (any_of HT_.out (by kernel_rfl)) (fun _ _ _ h => h) (Or.inl ⟨by rfl, ?_⟩) ?_ ?_
  rotate_left; · intro w'; go_simp; with_reducible rfl
  rotate_left; · simp only [Act.put, u1_, u2_, u3_, i64_w, i32_w]; rfl
  refine pure_ (i := 10) (N := (some 24)) (v := ?_) (a' := ?_) #[Y_,Y_,Y_,Y_,Y_,Y_,Y_,Y_,Y_,Y_,Y_,N_,N_,N_,N_,N_] rfl rfl (any_of HT_.out (by kernel_rfl)) (fun _ _ _ h => h) (Or.inl ⟨by rfl, ?_⟩) ?_ ?_
  rotate_left; · intro w'; go_simp; with_reducible rfl
  rotate_left; · simp only [Act.put, u1_, u2_, u3_, i64_w, i32_w]; rfl
  refine pure_ (i := 11) (N := (some 25)) (v := ?_) (a' := ?_) #[Y_,Y_,Y_,Y_,Y_,Y_,Y_,Y_,Y_,Y_,Y_,Y_,N_,N_,N_,N_] rfl rfl (any_of HT_.out (by kernel_rfl)) (fun _ _ _ h => h) (Or.inl ⟨by rfl, ?_⟩) ?_ ?_
  rotate_left; · intro w'; go_simp; with_reducible rfl
  rotate_left; · simp only [Act.put, u1_, u2_, u3_, i64_w, i32_w]; rfl
  refine take_ (i := 12) (N := (some 26)) (v := ?_) (a' := ?_) #[Y_,Y_,Y_,Y_,Y_,Y_,Y_,Y_,Y_,Y_,Y_,Y_,Y_,N_,N_,N_] rfl rfl (take_ofW HT_.out HW_.out (by kernel_rfl)) (fun _ _ _ h => h) (Or.inl ⟨by rfl, ?_⟩) hHeld ?_ ?_
  rotate_left; · rintro w' ⟨s0, s1, s2, s3, s4, s5, s6⟩; go_simp; with_reducible rfl
  rotate_left; · simp only [Act.put, u1_, u2_, u3_, i64_w, i32_w]; rfl
  refine take_ (i := 13) (N := (some 27)) (v := ?_) (a' := ?_) #[Y_,Y_,Y_,Y_,Y_,Y_,Y_,Y_,Y_,Y_,Y_,Y_,Y_,Y_,N_,N_] rfl rfl (take_ofW HT_.out HW_.out (by kernel_rfl)) (fun _ _ _ h => h) (Or.inl ⟨by rfl, ?_⟩) hHeld ?_ ?_
  rotate_left; · rintro w' ⟨s0, s1, s2, s3, s4, s5, s6⟩; go_simp; with_reducible rfl
  rotate_left; · simp only [Act.put, u1_, u2_, u3_, i64_w, i32_w]; rfl
  refine one_ (i := 14) (N := (some 28)) #[Y_,Y_,Y_,Y_,Y_,Y_,Y_,Y_,Y_,Y_,Y_,Y_,Y_,Y_,Y_,N_] rfl rfl (one_of HT_.out (by kernel_rfl)) (by decide) (fun K_ hK => ?_)
  refine call_ 90 #[.pointer (some ⟨pA, 0, none⟩), .agg #[.bool s.f0, .bool s.f1, .slice A2 s.f2.length c2, .slice A3 s.f3.length c3, .slice A4 s.f4.length c4]] (by rfl) rfl ?hrun14 ?_
  (case hrun14 => first | (go_simp; done) | (go_simp; exact enters Tryz.func90 (by kernel_rfl) rfl _ _))
  refine (made_calls (pA := pA) (a := (x.ar.way x.entry 0).2) s W4.out.ar (fk_world (FK_moves HFK.out M4.out) W4.out) HQ.out).mono ?_
  rintro e w5 ⟨okA5, rfl, hA5, hM5⟩
  have W5 := Aside0.mk (W4.out.ar_moves hA5 hM5).1
  have N5 := Aside0.mk (W4.out.ar_moves hA5 hM5).2
  have M5 := Aside0.mk (M4.out.trans N5.out)
  have X5 := Aside0.mk (X4.out.moves N5.out)
  clear hA5 hM5 W4 M4 X4 N5
  refine ⟨_, rfl, ?_⟩
  refine hK.out _ _ ⟨(blk_cell (W5.out.box) 0).trans rfl, (blk_cell (W5.out.box) 5).trans rfl, (blk_cell (X5.out.1) 0).trans rfl, (blk_cell (X5.out.1) 1).trans rfl, (blk_cell (X5.out.1) 2).trans rfl, (blk_cell (X5.out.1) 3).trans rfl, (blk_cell (X5.out.1) 4).trans rfl⟩ (fun hHeld => ?_)
  clear hK K_
  refine norm_ (a' := ?_) ?_ ?_
  rotate_left; · show Act.put _ (some 28) _ = _; simp only [Act.put, u1_, u2_, u3_, i64_w, i32_w]; rfl
  refine one_ (i := 15) (N := (some 29)) #[Y_,Y_,Y_,Y_,Y_,Y_,Y_,Y_,Y_,Y_,Y_,Y_,Y_,Y_,Y_,Y_] rfl rfl (one_of HT_.out (by kernel_rfl)) (by decide) (fun K_ hK => ?_)
  refine call_ 89 #[.pointer (some ⟨pA, 0, none⟩), .int .i64 x.entry, .int .i64 0, .int .i64 (x.ar.way x.entry 0).1, .int .i64 r] (by rfl) rfl ?hrun15 ?_
  (case hrun15 => first | (go_simp; done) | (go_simp; exact enters Tryz.func89 (by kernel_rfl) rfl _ _))
  refine (swapWay_calls x.entry 0 _ r w5 W5.out.ar HL.out.2.1).mono ?_
  rintro e w6 ⟨rfl, hA6, hM6⟩
  have W6 := Aside0.mk (W5.out.ar_moves hA6 hM6).1
  have N6 := Aside0.mk (W5.out.ar_moves hA6 hM6).2
  have M6 := Aside0.mk (M5.out.trans N6.out)
  have X6 := Aside0.mk (X5.out.moves N6.out)
  clear hA6 hM6 W5 M5 X5 N6
  refine ⟨_, rfl, ?_⟩
  refine hK.out _ _ ⟨(blk_cell (W6.out.box) 0).trans rfl, (blk_cell (W6.out.box) 5).trans rfl, (blk_cell (X6.out.1) 0).trans rfl, (blk_cell (X6.out.1) 1).trans rfl, (blk_cell (X6.out.1) 2).trans rfl, (blk_cell (X6.out.1) 3).trans rfl, (blk_cell (X6.out.1) 4).trans rfl⟩ (fun hHeld => ?_)
  clear hK K_
  refine norm_ (a' := ?_) ?_ ?_
  rotate_left; · show Act.put _ (some 29) _ = _; simp only [Act.put, u1_, u2_, u3_, i64_w, i32_w]; rfl
  refine done_ (done_of HT_.out (by kernel_rfl)) ?_
  have y0 := (blk_cell W6.out.box 0).trans (rfl : _ = some (Value.pointer (some ⟨pA, 0, none⟩)))
  clear hHeld
  go_wp2_with (go_at_call 91; refine (free_calls _ _ W6.out.ar HL.out.2.2.1 HL.out.2.2.2).mono ?_; rintro e w7 ⟨rfl, okA7, hA7, hM7⟩; have W7 := Aside0.mk (W6.out.ar_moves hA7 hM7).1; have M7 := Aside0.mk (M6.out.trans (W6.out.ar_moves hA7 hM7).2); clear hA7 hM7)
  go_end0
  exact ⟨rfl, _, by rw [← HX.out]; exact ⟨_, _, _, _, _, _, W7.out⟩, M7.out⟩
theorem FK_below {α : Type} {d : Kd α} {x : α} {c : List Value} {D : Nat → Prop} {w w1 : World} {n : Nat} (h : d.FK w D x c) (hn : w.heap.size ≤ n) (b : Below n w w1) : d.FK w1 (fun k => D k ∧ k < w.heap.size) x c := Kd.FK_step (Kd.FK_bound h) (fun k hk hlt => b.block k (by omega))
structure Home (x : Ws) (w : World) (e : Ending) (w1 : World) : Prop where
  out : ∃ ok p, e = .returned (.pointer (some ⟨p, 0, none⟩)) ∧ IsWorld p x ok w1 ∧ (∀ k, ok k → w.heap.size ≤ k) ∧ Below w.heap.size w w1
set_option maxHeartbeats 4000000 in
set_option maxRecDepth 100000 in
theorem home_calls (k : Nat) (a b : Int) (threads : Nat) (s : Sh) (room records m nodes : Int) (x x1 : Ws) (w : World) (cs : List Value) {D : Nat → Prop} (hf : kSh.FK w D s cs) (hm : boscagelaw11_Shape_Many.f k s.f0 s.f1 s.f2 s.f3 s.f4 = some m) (hno : wrap64 (wrap64 (2 + m) + room) = nodes)
    (ha : 2 ≤ a) (ha1 : a ≤ 32) (hb : 2 * a - 1 ≤ b) (hb1 : b ≤ 32) (ht : 1 ≤ threads) (ht1 : threads ≤ 64) (hn : 2 ≤ nodes) (hn1 : nodes ≤ 65536) (hr : 0 ≤ records) (hr1 : records ≤ 65536) (hx : ws0 a b threads nodes records = some x) (hp : plantT s x = some x1) :
    Calls Tryz.prog 37 #[.int .i64 a, .int .i64 b, .int .i64 threads, .agg cs.toArray, .int .i64 room, .int .i64 records] w (Home x1 w) := by
  have HN := Aside0.mk (fun w => world_new a b threads nodes records w ha ha1 hb hb1 ht ht1 hn hn1 hr hr1 x hx)
  have HP := Aside0.mk hp
  have HM := Aside0.mk hm
  have HNO := Aside0.mk hno
  clear ha ha1 hb hb1 ht ht1 hn hn1 hr hr1 hx hp hm hno
  obtain ⟨A2, c2, A3, c3, A4, c4, rfl, l2, F2, l3, F3, l4, F4⟩ := k42_openF hf
  have HF := Aside0.mk hf
  have HG := Aside0.mk (And.intro l2 (And.intro F2 (And.intro l3 (And.intro F3 (And.intro l4 F4)))))
  have X1 := Aside0.mk (Mine.new (ok := fun _ => False) (w := w) (fun k hk => hk.elim) (.cells #[.bool s.f0, .bool s.f1, .slice A2 s.f2.length c2, .slice A3 s.f3.length c3, .slice A4 s.f4.length c4] 42))
  have B1 := Aside0.mk (below_alloc (Below.refl w.heap.size w) (.cells #[.bool s.f0, .bool s.f1, .slice A2 s.f2.length c2, .slice A3 s.f3.length c3, .slice A4 s.f4.length c4] 42))
  clear hf l2 F2 l3 F3 l4 F4
  go_enter Tryz.func37, Tryz.ntmps37
  go_upto_region 1 with fail
  generalize hw1 : w.alloc (.cells #[.bool s.f0, .bool s.f1, .slice A2 s.f2.length c2, .slice A3 s.f3.length c3, .slice A4 s.f4.length c4] 42) = w1 at X1 B1 ⊢
  have hs1 : w.heap.size ≤ w1.heap.size := B1.out.size
  have S1 := Aside0.mk hs1
  generalize hb9 : w.heap.size = b9 at X1 ⊢
  have E9 := Aside0.mk hb9
  clear hw1 hs1 hb9
  have y0 := (blk_cell X1.out.1 0).trans (rfl : _ = some (Value.bool s.f0))
  have y1 := (blk_cell X1.out.1 1).trans (rfl : _ = some (Value.bool s.f1))
  have y2 := (blk_cell X1.out.1 2).trans (rfl : _ = some (Value.slice A2 s.f2.length c2))
  have y3 := (blk_cell X1.out.1 3).trans (rfl : _ = some (Value.slice A3 s.f3.length c3))
  have y4 := (blk_cell X1.out.1 4).trans (rfl : _ = some (Value.slice A4 s.f4.length c4))
  go_upto_region 2 with (first
    | (go_at_call 31; refine (boscagelaw11_Shape_Many.calls k s.f0 s.f1 A2 c2 s.f2 A3 c3 s.f3 A4 c4 s.f4 m _ (Kd.C_below (Kd.F_now HG.out.2.1) B1.out) HG.out.1 (Kd.C_below (Kd.F_now HG.out.2.2.2.1) B1.out) HG.out.2.2.1 (Kd.C_below (Kd.F_now HG.out.2.2.2.2.2) B1.out) HG.out.2.2.2.2.1 HM.out).mono ?_; rintro e w2 ⟨rfl, hb2⟩; have B2 := Aside0.mk (below_then B1.out S1.out hb2); have X2 := Aside0.mk (X1.out.moves (Moves.of_below _ hb2)); clear hb2)
    | (go_at_call 32; rw [HNO.out]; refine (HN.out _).mono ?_; rintro e w3 hW; obtain ⟨ok, p, rfl, hW, hF, hB⟩ := hW.out; have W3 := Aside0.mk hW; have F3 := Aside0.mk ((fun k hk => Nat.le_trans B2.out.size (hF k hk)) : ∀ k, ok k → w.heap.size ≤ k); have B3 := Aside0.mk (below_then B2.out B2.out.size hB); have X3 := Aside0.mk (X2.out.moves (Moves.of_below _ hB)); clear hW hF hB))
  have z0 := (blk_cell X3.out.1 0).trans (rfl : _ = some (Value.bool s.f0))
  have z1 := (blk_cell X3.out.1 1).trans (rfl : _ = some (Value.bool s.f1))
  have z2 := (blk_cell X3.out.1 2).trans (rfl : _ = some (Value.slice A2 s.f2.length c2))
  have z3 := (blk_cell X3.out.1 3).trans (rfl : _ = some (Value.slice A3 s.f3.length c3))
  have z4 := (blk_cell X3.out.1 4).trans (rfl : _ = some (Value.slice A4 s.f4.length c4))
  clear y0 y1 y2 y3 y4
  have FK3 := Aside0.mk (Kd.FK_mono (FK_below HF.out (Nat.le_refl _) B3.out) (fun k hk => (fun h => by have := F3.out k h; omega) : ∀ k, D k ∧ k < w.heap.size → ¬ ok k))
  go_wp2_with (go_at_call 60; refine (plant_calls s _ _ W3.out FK3.out HP.out).mono ?_; rintro e w4 ⟨rfl, ok4, hW4, hM4⟩; have W4 := Aside0.mk hW4; have M4 := Aside0.mk hM4; clear hW4 hM4)
  go_ret
  exact ⟨⟨ok4, p, rfl, W4.out, fun k hk => (M4.out.fresh k hk).elim (fun h => F3.out k h) (fun h => Nat.le_trans B3.out.size h), moves_outer M4.out B3.out F3.out⟩⟩
end Go.Proofs.YthlmgbdknjilpaaGreat.Tower
namespace Go.Proofs.YthlmgbdknjilpaaGreat.Tower
open Go Go.RowKit Go.Proofs.YthlmgbdknjilpaaGreatW.PrintWords Go.Proofs.YthlmgbdknjilpaaGreatW.PrintLast Go.Proofs.YthlmgbdknjilpaaGreatW.PrintMore Go.Proofs.YthlmgbdknjilpaaGreat.Own Go.Proofs.YthlmgbdknjilpaaGreat.PAskKinds
set_option linter.unusedVariables false
set_option linter.unusedSimpArgs false
theorem wrap_add (i n : Nat) (h : i + n ≤ 1000) : IntKind.i64.wrap ((i : Int) + (n : Int)) = (i : Int) + (n : Int) := by rw [i64_w]; unfold wrap64; omega
def lenV : Value → Nat
  | .slice _ n _ => n
  | _ => 0
structure Ev2 (w : World) (b : Nat) (s0 : Sh) (v5 v6 : Value) (wr : World) (ρ : Nat → Nat) (f : Nat) (row : List Sh) (fs : List Int) : Prop where
  eU : evenUp b f row fs = s0
  lenF : fs.length = row.length
  pos : 1 ≤ row.length
  l60 : row.length ≤ 60
  fuel : row.length ≤ f + 1
  below : Below w.heap.size w wr
  row : Row ρ 16 Y16 wr w.heap.size v5 row
  fs : (Kd.int .i64).R 2 wr w.heap.size (fun k => ρ k = 20) v6 fs
  box : Bl ρ 18 wr w.heap.size zShO
  old : ∀ k, k < w.heap.size → ρ k = 17
structure Ev3 (w : World) (row : List Sh) (fs : List Int) (v5 v6 : Value) (psA : Option Addr) (ps : List Int) (U0 : List Sh) (K0 : List Int) (v9 v10 v11 v55 : Value) (wr : World) (ρ : Nat → Nat) (i : Nat) (ns : List Nat) (acc : List Sh) (accK : List Int) : Prop where
  e11 : v11 = .int .i64 (i : Nat)
  e55 : v55 = .int .i64 (acc.length : Nat)
  sum : i + ns.sum = row.length
  pos : ∀ n ∈ ns, 1 ≤ n
  cnt : acc.length + ns.length = ps.length
  p60 : ps.length ≤ 60
  told : ∀ j, rd ps ((acc.length + j : Nat) : Int) = ((ns.getD j 0 : Nat) : Int)
  eR : acc ++ upRow row fs i ns = U0
  eK : accK ++ upKey fs i ns = K0
  lenK : accK.length = acc.length
  below : Below w.heap.size w wr
  row : Row ρ 16 Y16 wr w.heap.size v5 row
  fs : (Kd.int .i64).R 2 wr w.heap.size (fun k => ρ k = 20) v6 fs
  up : Row ρ 21 Y16 wr w.heap.size v9 acc
  ks : (Kd.int .i64).R 2 wr w.heap.size (fun k => ρ k = 22) v10 accK
  parts : (Kd.int .i64).F wr (fun k => ρ k = 17) psA ps.length ps
  box : Bl ρ 18 wr w.heap.size zShO
  old : ∀ k, k < w.heap.size → ρ k = 17
def EvStill (w : World) (base : Nat) (ρ : Nat → Nat) (v5 v6 v9 v10 : Value) (row acc : List Sh) (fs accK : List Int) (psA : Option Addr) (ps : List Int) : Prop :=
  Row ρ 16 Y16 w base v5 row ∧ (Kd.int .i64).R 2 w base (fun k => ρ k = 20) v6 fs ∧ Row ρ 21 Y16 w base v9 acc ∧ (Kd.int .i64).R 2 w base (fun k => ρ k = 22) v10 accK ∧ (Kd.int .i64).F w (fun k => ρ k = 17) psA ps.length ps ∧ Bl ρ 18 w base zShO ∧ ∀ k, k < base → ρ k = 17
section
variable {ρ ρ1 : Nat → Nat} {c base : Nat} {w w1 : World} {v5 v6 v9 v10 : Value} {row acc : List Sh} {fs accK ps : List Int} {psA : Option Addr}
theorem EvStill.mv (h : EvStill w base ρ v5 v6 v9 v10 row acc fs accK psA ps) (m : MvC c ρ ρ1 w w1) (hc : c ≠ 2) : EvStill w1 base ρ1 v5 v6 v9 v10 row acc fs accK psA ps := by
  have h16 : ∀ y, Y16 y → y / 8 ≠ c := fun y hy => by rw [show y = 16 from hy]; omega
  obtain ⟨h1, h2, h3, h4, h5, h6, h7⟩ := h
  exact ⟨h1.mv m (by omega) h16, R_mv h2 m (by omega), h3.mv m (by omega) h16, R_mv h4 m (by omega), F_mv h5 m (by omega), h6.mv m (by omega), fun k hk => (m.keep k (Nat.lt_trans hk (blk_lt h6.1)) (by rw [h7 k hk]; omega)).trans (h7 k hk)⟩
end
theorem EvStill.grown {ρ : Nat → Nat} {base : Nat} {w w1 : World} {v5 v6 v9 v10 : Value} {row acc : List Sh} {fs accK ps : List Int} {psA : Option Addr} (h : EvStill w base ρ v5 v6 v9 v10 row acc fs accK psA ps) (hg : w.grownBy w1 v9.ownBlock) (y : Nat) :
    Row (paint ρ w.heap.size y) 16 Y16 w1 base v5 row ∧ (Kd.int .i64).R 2 w1 base (fun k => paint ρ w.heap.size y k = 20) v6 fs ∧ (Kd.int .i64).R 2 w1 base (fun k => paint ρ w.heap.size y k = 22) v10 accK ∧ (Kd.int .i64).F w1 (fun k => paint ρ w.heap.size y k = 17) psA ps.length ps ∧ Bl (paint ρ w.heap.size y) 18 w1 base zShO ∧ ∀ k, k < base → paint ρ w.heap.size y k = 17 := by
  obtain ⟨h1, h2, h3, h4, h5, h6, h7⟩ := h
  have hne : ∀ x, x ≠ 21 → ∀ k, v9.ownBlock = some k → ρ k ≠ x := fun x hx k hk => by rw [h3.own k hk]; exact fun e => hx e.symm
  exact ⟨h1.grown hg (fun k hk => by rw [h3.own k hk]; exact ⟨by omega, by unfold Y16; omega⟩) y, R_col h2 (col_grown hg y (hne 20 (by omega))), R_col h4 (col_grown hg y (hne 22 (by omega))), F_col h5 (col_grown hg y (hne 17 (by omega))), h6.col (col_grown hg y (hne 18 (by omega))), paint_old h7 (Nat.le_of_lt (blk_lt h6.1))⟩
def Ev18A (base : Nat) (v5 v6 v9 v10 : Value) (row acc : List Sh) (fs accK : List Int) (psA : Option Addr) (ps ks : List Int) : Nat → Nat → (Nat → Value) → (Nat → Nat) → World → Prop
  | 0, 0, u, ρ, w => True
  | 0, 1, u, ρ, w => (Kd.int .i64).R 2 w base (fun k => ρ k = 0) (u 1) []
  | 0, _ + 2, u, ρ, w => (Kd.int .i64).R 2 w base (fun k => ρ k = 0) (u 9) ks
  | 1, 0, u, ρ, w => True
  | 1, _ + 1, u, ρ, w => Row ρ 8 Y16 w base (u 10) []
  | 2, _, u, ρ, w => EvStill w base ρ v5 v6 v9 v10 row acc fs accK psA ps
  | _, _, _, _, _ => True
section
variable {base : Nat} {v5 v6 v9 v10 : Value} {row acc : List Sh} {fs accK ps ks : List Int} {psA : Option Addr}
theorem Ev18A.dep (c p : Nat) (u : Nat → Value) (i : Nat) (v : Value) (ρ : Nat → Nat) (w : World) (hi : cofT [[1, 9], [10], []] i ≠ c) (h : Ev18A base v5 v6 v9 v10 row acc fs accK psA ps ks c p u ρ w) : Ev18A base v5 v6 v9 v10 row acc fs accK psA ps ks c p (updv u i v) ρ w := by
  have far : ∀ j, cofT [[1, 9], [10], []] j = c → updv u i v j = u j := fun j hj => if_neg (fun e => hi (by rw [← e]; exact hj))
  match c, p, h with
  | 0, 0, h => exact h
  | 0, 1, h => simp only [Ev18A, far 1 (by rfl)]; exact h
  | 0, p + 2, h => simp only [Ev18A, far 9 (by rfl)]; exact h
  | 1, 0, h => exact h
  | 1, p + 1, h => simp only [Ev18A, far 10 (by rfl)]; exact h
  | 2, _, h => exact h
  | c + 3, _, h => exact trivial
theorem Ev18A.still (c c' p : Nat) (u : Nat → Value) (ρ ρ1 : Nat → Nat) (w w1 : World) (hc : c ≠ c') (hn : [[1, 9], [10], []].getD c' [] ≠ []) (m : MvC c' ρ ρ1 w w1) (h : Ev18A base v5 v6 v9 v10 row acc fs accK psA ps ks c p u ρ w) : Ev18A base v5 v6 v9 v10 row acc fs accK psA ps ks c p u ρ1 w1 := by
  have hc2 : c' ≠ 2 := fun e => by subst e; exact hn rfl
  have h16 : ∀ y, Y16 y → y / 8 ≠ c' := fun y hy => by rw [show y = 16 from hy]; omega
  match c, p, h with
  | 0, 0, h => exact trivial
  | 0, 1, h => exact R_mv h m (by omega)
  | 0, p + 2, h => exact R_mv h m (by omega)
  | 1, 0, h => exact trivial
  | 1, p + 1, h => exact Row.mv h m (by omega) h16
  | 2, _, h => exact EvStill.mv h m hc2
  | c + 3, _, h => exact trivial
end
def fade2 (ρ : Nat → Nat) (k : Nat) : Nat := if ρ k = 0 ∨ ρ k = 8 ∨ ρ k = 9 then 16 else ρ k
theorem fade2_keep {ρ : Nat → Nat} {k x : Nat} (h : ρ k = x) (hx : 16 ≤ x) : fade2 ρ k = x := by unfold fade2; rw [if_neg (by omega), h]
theorem fade2_old {ρ : Nat → Nat} {b : Nat} (h : ∀ k, k < b → ρ k = 17) : ∀ k, k < b → fade2 ρ k = 17 := fun k hk => fade2_keep (h k hk) (by omega)
theorem fade2_16 {ρ : Nat → Nat} {k : Nat} (h : ρ k = 16 ∨ ρ k = 0 ∨ ρ k = 8 ∨ ρ k = 9) : Y16 (fade2 ρ k) := by
  unfold fade2 Y16
  rcases h with h | h
  · rw [if_neg (by omega), h]
  · rw [if_pos h]
theorem lenV_slice (A : Option Addr) (n c : Nat) : lenV (.slice A n c) = n := rfl
theorem evenUp_more {b f : Nat} {row : List Sh} {fs : List Int} (h : 1 < row.length) (hf : row.length ≤ f + 1) : ∃ f1, f = f1 + 1 ∧ evenUp b f row fs = evenUp b f1 (upRow row fs 0 (partsN row.length b)) (upKey fs 0 (partsN row.length b)) := by
  obtain ⟨f1, rfl⟩ : ∃ f1, f = f1 + 1 := ⟨f - 1, by omega⟩
  exact ⟨f1, rfl, by rw [evenUp, if_pos h]⟩
theorem evenUp_done {b : Nat} : ∀ {f : Nat} {row : List Sh} {fs : List Int}, ¬ 1 < row.length → evenUp b f row fs = row.headD zSh
  | 0, _, _, _ => rfl
  | f + 1, row, fs, h => by rw [evenUp, if_neg h]
end Go.Proofs.YthlmgbdknjilpaaGreat.Tower
namespace Go.Proofs.YthlmgbdknjilpaaGreat.Tower
open Go Go.RowKit Go.Proofs.YthlmgbdknjilpaaGreatW.PrintWords Go.Proofs.YthlmgbdknjilpaaGreatW.PrintLast Go.Proofs.YthlmgbdknjilpaaGreatW.PrintMore Go.Proofs.YthlmgbdknjilpaaGreat.Own Go.Proofs.YthlmgbdknjilpaaGreat.PAskKinds
set_option linter.unusedVariables false
set_option linter.unusedSimpArgs false
def TEv8 : Bool × List (List Nat × List Nat) := (true, [([], []), ([], []), ([], []), ([], []), ([2, 3], [2, 3]), ([1, 4], [1, 4]), ([5], [5]), ([6], [6]), ([0, 7, 5], [0, 7]), ([], []), ([], []), ([10], [10]), ([11], [11]), ([12], [12]), ([13], [13]), ([9, 14, 8], [9, 14]), ([8, 15, 0, 1, 2, 3, 4, 5, 6, 7, 8], [0, 8]), ([15, 16, 0, 1, 2, 3, 4, 5, 6, 7, 8, 9, 10, 11, 12, 13, 14, 15, 16], [9, 15])])
def BEv8 : List Nat := [0, 0, 0, 0, 12, 30, 62, 126, 255, 0, 0, 1024, 3072, 7168, 15360, 32767, 65535, 131071]
theorem tabEv8 : rtab .any (opsOf Tryz.f35 8) = TEv8 := by kernel_rfl
theorem bitsEv8 : waitsOk TEv8.2 BEv8 = true := by kernel_rfl
def TEv18 : Bool × List (List Nat × List Nat) := (true, [([], []), ([], []), ([], []), ([], []), ([3], [3]), ([], []), ([], []), ([5, 6], [5, 6]), ([2, 4, 7], [2, 4, 7]), ([1, 8], [1, 8]), ([], []), ([], []), ([], []), ([], []), ([], []), ([13, 14], [13, 14]), ([11, 12, 15], [11, 12, 15]), ([10, 16, 9], [10, 16]), ([9, 17], [9, 17]), ([18], [18]), ([0, 19, 17], [0, 19]), ([20, 20, 0, 1, 2, 3, 4, 5, 6, 7, 8, 9, 10, 11, 12, 13, 14, 15, 16, 17, 18, 19, 20], [0, 20])])
def BEv18 : List Nat := [0, 0, 0, 0, 8, 0, 0, 96, 252, 510, 0, 0, 0, 0, 0, 24576, 63488, 131070, 262142, 524286, 1048575, 2097151]
theorem tabEv18 : rtab .any (opsOf Tryz.f35 18) = TEv18 := by kernel_rfl
theorem bitsEv18 : waitsOk TEv18.2 BEv18 = true := by kernel_rfl
theorem hiI : Tryz.prog.info? 2 = some ((Tryz.prog.info? 2).get (by kernel_rfl)) := by kernel_rfl
theorem hiS : Tryz.prog.info? 42 = some ((Tryz.prog.info? 42).get (by kernel_rfl)) := by kernel_rfl
theorem hiP : Tryz.prog.info? 31 = some ((Tryz.prog.info? 31).get (by kernel_rfl)) := by kernel_rfl
set_option maxHeartbeats 4000000 in
set_option maxRecDepth 100000 in
theorem even_calls (A : Option Addr) (c : Nat) (xs : List Pr2) (b : Nat) (w : World) (hC : kP.C w A xs.length xs) (hc : xs.length ≤ c) (h60 : xs.length ≤ 60) (hp : 0 < xs.length) (hb : 3 ≤ b) (hb8 : b ≤ 8) :
    Calls Tryz.prog 35 #[.slice A xs.length c, .int .i64 b] w fun e w1 => ∃ cs, e = .returned (.agg cs.toArray) ∧ kSh.FK w1 (fun k => w.heap.size ≤ k) (evenT xs b) cs ∧ Below w.heap.size w w1 := by
  have HP := Aside0.mk (parts_f xs.length b h60 hb hb8)
  obtain ⟨g1, g2, _, g4, _⟩ := parts_good xs.length b h60 hb hb8
  have HC := Aside0.mk hC
  have HCC := Aside0.mk hc
  have H60 := Aside0.mk h60
  have HP0 := Aside0.mk hp
  have HG1 := Aside0.mk g1
  have HG2 := Aside0.mk g2
  have HG4 := Aside0.mk g4
  have d1 : decide ((xs.length : Int) = 0) = false := decide_eq_false (by omega)
  have d2 : ((xs.length : Int) == 0) = false := by rw [beq_eq_false_iff_ne]; omega
  clear hC hc g1 g2 g4
  go_enter Tryz.func35, Tryz.ntmps35
  go_upto_region 5 with fail
  have HX0 := Aside0.mk (blk_new w (.cells #[.bool false, .bool false, .slice none 0 0, .slice none 0 0, .slice none 0 0] 42))
  have HB0 := Aside0.mk (below_alloc (Below.refl w.heap.size w) (.cells #[.bool false, .bool false, .slice none 0 0, .slice none 0 0, .slice none 0 0] 42))
  generalize w.alloc (.cells #[.bool false, .bool false, .slice none 0 0, .slice none 0 0, .slice none 0 0] 42) = w1 at HX0 HB0 ⊢
  go_wp2_with (go_at_call 59; refine (boscagelaw11_Parts.calls 300 _ _ _ _ HP.out).mono ?_; rintro e w2 ⟨vp, rfl, hv, hb2⟩; obtain ⟨pA, pc, rfl⟩ := Kd.R_slice hv; have VP := Aside0.mk hv; have B2 := Aside0.mk hb2; clear hv hb2)
  have HPL := Aside0.mk (show ((partsN xs.length b).map Int.ofNat).length = (partsN xs.length b).length from List.length_map _)
  generalize hps : (partsN xs.length b).map Int.ofNat = ps at VP HPL
  have HPS := Aside0.mk hps
  generalize hns : partsN xs.length b = ns0 at HPL HPS HG1 HG2 HG4 ⊢
  have HNS := Aside0.mk hns
  try rw [← HPL.out]
  clear hps hns
  obtain ⟨R0, hR0⟩ : ∃ R0, leafRow xs ns0 = R0 := ⟨_, rfl⟩
  obtain ⟨K0, hK0⟩ : ∃ K0, leafKey xs ns0 = K0 := ⟨_, rfl⟩
  have HR0 := Aside0.mk hR0
  have HK0 := Aside0.mk hK0
  clear hR0 hK0
  have HE0 : Aside0 (Ev1 w pA ps R0 K0 (.slice A xs.length c) (.slice none 0 0) (.slice none 0 0) (.int .i64 0) w2 (fun k => if k = w.heap.size then 18 else 17) A c xs ns0 [] []) := ⟨{
    e0 := rfl
    e23 := rfl
    cap := HCC.out
    lC := HC.out
    l60 := H60.out
    sum := HG1.out
    pos := fun n hn => (HG2.out n hn).1
    cnt := by rw [HPL.out]; simp
    p60 := by rw [HPL.out]; have := HG4.out; have := H60.out; omega
    told := fun j => by
      rw [← HPS.out]
      show (List.map Int.ofNat ns0).getD ((([] : List Sh).length + j : Nat) : Int).toNat 0 = _
      rw [Int.toNat_natCast, List.length_nil, Nat.zero_add, List.getD_eq_getElem?_getD, List.getElem?_map, List.getD_eq_getElem?_getD]
      cases ns0[j]? <;> rfl
    eR := HR0.out
    eK := HK0.out
    lenK := rfl
    below := below_then HB0.out HB0.out.size B2.out
    row := Row.nil _ _ _ _ _
    fs := Kd.R_nil _ _ _ _ _
    parts := Kd.F_mono (Kd.R_F (Kd.R_bound VP.out)) (fun k hk => if_neg (by have := hk.2.1; have := blk_lt HX0.out; omega))
    box := ⟨blk_below HX0.out B2.out, if_pos rfl⟩
    old := fun k hk => if_neg (by omega) }⟩
  have HEV : Aside0 (evenT xs b = evenUp b 60 R0 K0) := ⟨by unfold evenT; rw [if_neg (by have := HP0.out; omega), ← HR0.out, ← HK0.out, HNS.out]⟩
  have HPP : Aside0 (1 ≤ ps.length) := ⟨by
    rw [HPL.out]
    cases hq : ns0 with
    | nil => have h1 := HG1.out; rw [hq] at h1; have := HP0.out; simp at h1; omega
    | cons x r => simp⟩
  clear VP B2 HX0 HB0 HG1 HG2 HG4 HPS HNS HP HC HCC d1 d2 hp
  go_loopw [0, 5, 6, 23] (fun v0 v5 v6 v23 wr => ∃ ρ A c xs ns acc accK, Aside0 (Ev1 w pA ps R0 K0 v0 v5 v6 v23 wr ρ A c xs ns acc accK)) (fun _ _ _ v23 _ => ps.length - (intOf v23).toNat)
  case atStart => exact ⟨_, _, _, _, _, _, _, HE0⟩
  case round =>
    clear HE0
    obtain ⟨ρ, A, c, ys, ns, acc, accK, HE⟩ := hrel
    obtain rfl := HE.out.e0
    obtain rfl := HE.out.e23
    cases ns with
    | nil =>
      have hcnt := HE.out.cnt
      rw [List.length_nil, Nat.add_zero] at hcnt
      have d5 : decide ((acc.length : Int) < (ps.length : Int)) = false := decide_eq_false (by omega)
      have d6 : decide (acc.length < ps.length) = false := decide_eq_false (by omega)
      have H2 : Aside0 (Ev2 w b (evenT xs b) u5 u6 wr (fun k => if ρ k = 0 then 16 else if ρ k = 8 then 20 else ρ k) 60 acc accK) := ⟨by
        have hE := HE.out
        have h1 := hE.eR
        have h2 := hE.eK
        rw [leafRow, List.append_nil] at h1
        rw [leafKey, List.append_nil] at h2
        exact {
          eU := by rw [h1, h2]; exact HEV.out.symm
          lenF := hE.lenK
          pos := by have := HPP.out; omega
          l60 := by have := hE.p60; omega
          fuel := by have := hE.p60; omega
          below := hE.below
          row := hE.row.tint (fun k _ h => if_pos h) (fun k _ h => by show (if _ then _ else if _ then _ else _) = 16; rw [if_neg (by rw [show ρ k = 16 from h]; omega), if_neg (by rw [show ρ k = 16 from h]; omega)]; exact h)
          fs := R_tint hE.fs (fun k _ h => by rw [if_neg (by omega), if_pos h])
          box := hE.box.tint (fun k _ h => by rw [if_neg (by omega), if_neg (by omega), h])
          old := fun k hk => by have h := hE.old k hk; rw [if_neg (by omega), if_neg (by omega), h] }⟩
      clear HE hcnt
      go_wp2_with fail
      go_loopw [5, 6] (fun v5 v6 wr => ∃ ρ f row fs, Aside0 (Ev2 w b (evenT xs b) v5 v6 wr ρ f row fs)) (fun v5 _ _ => lenV v5)
      case atStart => exact ⟨_, _, _, _, H2⟩
      case round =>
        clear H2 d5 d6
        obtain ⟨ρ, f, row, fs, HE⟩ := hrel
        obtain ⟨A5, c5, h5⟩ := Kd.N_slice HE.out.row.row
        obtain ⟨A6, c6, h6⟩ := Kd.R_slice HE.out.fs
        obtain rfl := h5
        obtain rfl := h6
        by_cases hlt : 1 < row.length
        · have d7 : decide ((row.length : Int) > 1) = true := decide_eq_true (by omega)
          have d8 : decide (1 < row.length) = true := decide_eq_true hlt
          have hl60 := HE.out.l60
          obtain ⟨f1, hf1, hU⟩ := evenUp_more (b := b) (fs := fs) hlt HE.out.fuel
          have HP2 := Aside0.mk (parts_f row.length b hl60 hb hb8)
          obtain ⟨g1, g2, g3, g4, _⟩ := parts_good row.length b hl60 hb hb8
          have HG1 := Aside0.mk g1
          have HG2 := Aside0.mk g2
          have HG3 := Aside0.mk (g3 hlt)
          have HU2 := Aside0.mk hU
          have HF1 := Aside0.mk hf1
          have HLT := Aside0.mk hlt
          have HL60 := Aside0.mk hl60
          clear g1 g2 g3 g4 hU hf1 hlt hl60
          go_wp2_with (go_at_call 59; refine (boscagelaw11_Parts.calls 300 _ _ _ _ HP2.out).mono ?_; rintro e w2 ⟨vp, rfl, hv, hb2⟩; obtain ⟨pA, pc, rfl⟩ := Kd.R_slice hv; have VP := Aside0.mk hv; have B2 := Aside0.mk hb2; clear hv hb2)
          have HPL2 := Aside0.mk (show ((partsN row.length b).map Int.ofNat).length = (partsN row.length b).length from List.length_map _)
          generalize hps : (partsN row.length b).map Int.ofNat = ps2 at VP HPL2 ⊢
          have HPS2 := Aside0.mk hps
          generalize hns : partsN row.length b = ns2 at HPL2 HPS2 HG1 HG2 HG3 HU2 ⊢
          rw [← HPL2.out]
          obtain ⟨U0, hU0⟩ : ∃ U0, upRow row fs 0 ns2 = U0 := ⟨_, rfl⟩
          obtain ⟨K1, hK1⟩ : ∃ K1, upKey fs 0 ns2 = K1 := ⟨_, rfl⟩
          have HEU : Aside0 (evenUp b f1 U0 K1 = evenT xs b) := ⟨by rw [← hU0, ← hK1, ← HU2.out]; exact HE.out.eU⟩
          have HE3 : Aside0 (Ev3 w row fs (.slice A5 row.length c5) (.slice A6 fs.length c6) pA ps2 U0 K1 (.slice none 0 0) (.slice none 0 0) (.int .i64 0) (.int .i64 0) w2 (paint ρ wr.heap.size 17) 0 ns2 [] []) := ⟨{
            e11 := rfl
            e55 := rfl
            sum := by rw [HG1.out]; omega
            pos := fun n hn => (HG2.out n hn).1
            cnt := by rw [HPL2.out]; simp
            p60 := by rw [HPL2.out]; have := HG3.out; have := HL60.out; omega
            told := fun j => by
              rw [← HPS2.out]
              show (List.map Int.ofNat ns2).getD ((([] : List Sh).length + j : Nat) : Int).toNat 0 = _
              rw [Int.toNat_natCast, List.length_nil, Nat.zero_add, List.getD_eq_getElem?_getD, List.getElem?_map, List.getD_eq_getElem?_getD]
              cases ns2[j]? <;> rfl
            eR := hU0
            eK := hK1
            lenK := rfl
            below := below_then HE.out.below HE.out.below.size B2.out
            row := HE.out.row.col (fun k hk _ => ⟨B2.out.block k hk, if_pos hk⟩)
            fs := R_col HE.out.fs (col_below B2.out 17)
            up := Row.nil _ _ _ _ _
            ks := Kd.R_nil _ _ _ _ _
            parts := Kd.R_F (R_new VP.out 17)
            box := HE.out.box.col (col_below B2.out 17)
            old := paint_old HE.out.old HE.out.below.size }⟩
          have HLF := Aside0.mk HE.out.lenF
          have HN2 := Aside0.mk HPL2.out
          have HS2 := Aside0.mk HG1.out
          have HFU := Aside0.mk HE.out.fuel
          clear VP B2 HPS2 HPL2 HG1 HG2 HU2 hU0 hK1 hps hns HE HP2
          go_loopw [9, 10, 11, 55] (fun v9 v10 v11 v55 wr => ∃ ρ i ns acc accK, Aside0 (Ev3 w row fs (.slice A5 row.length c5) (.slice A6 fs.length c6) pA ps2 U0 K1 v9 v10 v11 v55 wr ρ i ns acc accK)) (fun _ _ _ v55 _ => ps2.length - (intOf v55).toNat)
          case atStart => exact ⟨_, _, _, _, _, HE3⟩
          case round =>
            clear HE3
            obtain ⟨ρ, i, ns, acc3, accK3, HE⟩ := hrel
            obtain rfl := HE.out.e11
            obtain rfl := HE.out.e55
            cases ns with
            | nil =>
              have hcnt := HE.out.cnt
              rw [List.length_nil, Nat.add_zero] at hcnt
              have d5 : decide ((acc3.length : Int) < (ps2.length : Int)) = false := decide_eq_false (by omega)
              have d6 : decide (acc3.length < ps2.length) = false := decide_eq_false (by omega)
              obtain ⟨A9, c9, h9⟩ := Kd.N_slice HE.out.up.row
              obtain rfl := h9
              have HCNT := Aside0.mk hcnt
              clear hcnt
              go_wp2_with fail
              go_round
              case rel =>
                refine ⟨fun k => if ρ k = 21 then 16 else if ρ k = 22 then 20 else ρ k, f1, acc3, accK3, ⟨?_⟩⟩
                have hE := HE.out
                have h1 := hE.eR
                have h2 := hE.eK
                rw [upRow, List.append_nil] at h1
                rw [upKey, List.append_nil] at h2
                have hcnt := HCNT.out
                have hn2 := HN2.out
                have hg3 := HG3.out
                exact {
                  eU := by rw [h1, h2]; exact HEU.out
                  lenF := hE.lenK
                  pos := by
                    cases ns2 with
                    | nil => have h3 : ([] : List Nat).sum = row.length := HS2.out; rw [List.sum_nil] at h3; have := HLT.out; omega
                    | cons x r => rw [List.length_cons] at hn2; omega
                  l60 := by have := HL60.out; omega
                  fuel := by have := HFU.out; have := HF1.out; omega
                  below := hE.below
                  row := hE.up.tint (fun k _ h => if_pos h) (fun k _ h => by show (if _ then _ else if _ then _ else _) = 16; rw [if_neg (by rw [show ρ k = 16 from h]; omega), if_neg (by rw [show ρ k = 16 from h]; omega)]; exact h)
                  fs := R_tint hE.ks (fun k _ h => by rw [if_neg (by omega), if_pos h])
                  box := hE.box.tint (fun k _ h => by rw [if_neg (by omega), if_neg (by omega), h])
                  old := fun k hk => by have h := hE.old k hk; rw [if_neg (by omega), if_neg (by omega), h] }
              case measure => have := HCNT.out; have := HN2.out; have := HG3.out; rw [lenV_slice, lenV_slice]; omega
            | cons n ns =>
              have hcnt := HE.out.cnt
              rw [List.length_cons] at hcnt
              have hsum := HE.out.sum
              rw [List.sum_cons] at hsum
              have hn1 := HE.out.pos n List.mem_cons_self
              have d5 : decide ((acc3.length : Int) < (ps2.length : Int)) = true := decide_eq_true (by omega)
              have d6 : decide (acc3.length < ps2.length) = true := decide_eq_true (by omega)
              have hpC := Kd.F_now HE.out.parts
              obtain ⟨ap, rfl⟩ : ∃ ap, pA = some ap := by
                obtain ⟨ap, h, _⟩ := hpC.2.2 (by omega)
                exact ⟨ap, h⟩
              have hpn := Kd.foot_int hpC (acc3.length : Int) (by omega) (by omega)
              have htold := HE.out.told 0
              rw [Nat.add_zero, List.getD_cons_zero] at htold
              rw [htold, Int.toNat_natCast] at hpn
              have p0 : (0 : Int) ≤ (acc3.length : Int) := by omega
              have p1 : (acc3.length : Int) < (ps2.length : Int) := by omega
              have HCNT := Aside0.mk hcnt
              have HSUM := Aside0.mk hsum
              have HN1 := Aside0.mk hn1
              clear hpC htold hcnt hsum hn1
              go_upto_region 18 with fail
              have hE := HE.out
              have h1i : (i : Int) + 1 ≤ (i : Int) + (n : Int) := by have := HN1.out; omega
              have h2i : (i : Int) + (n : Int) ≤ (fs.length : Int) := by have := HSUM.out; have := HLF.out; omega
              have h3i : (i : Int) + (n : Int) ≤ (row.length : Int) := by have := HSUM.out; omega
              have h0i : (0 : Int) ≤ (i : Int) := by omega
              have h01 : (0 : Int) ≤ (i : Int) + 1 := by omega
              have h0n : (i : Int) ≤ (i : Int) + (n : Int) := by omega
              have HCF := Aside0.mk (Kd.R_reads' hE.fs)
              have HCR := Aside0.mk (Kd.N_reads' hE.row.row)
              have hq1 := cut_mid 28 2 .i64 .i64 Tryz.underlying28 hiI 1 rfl A6 fs.length c6 ((i : Int) + 1) ((i : Int) + (n : Int)) h01 h1i h2i HCF.out.2.1
              have hq2 := cut_mid 40 42 .i64 .i64 Tryz.underlying40 hiS 5 rfl A5 row.length c5 (i : Int) ((i : Int) + (n : Int)) h0i h0n h3i HCR.out.2.1
              rw [show ((i : Int) + 1).toNat = i + 1 by omega, show ((i : Int) + (n : Int)).toNat = i + n by omega] at hq1
              rw [show ((i : Int) + (n : Int)).toNat = i + n by omega, Int.toNat_natCast, show i + n - i = n by omega] at hq2
              obtain ⟨B6, hB6⟩ : ∃ B6, B6 = (if c6 = i + 1 then A6 else A6.map (·.add ((i + 1) * 1))) := ⟨_, rfl⟩
              obtain ⟨B5, hB5⟩ : ∃ B5, B5 = (if c5 = i then A5 else A5.map (·.add (i * 5))) := ⟨_, rfl⟩
              rw [← hB6] at hq1
              rw [← hB5] at hq2
              have HB6 := Aside0.mk hB6
              have HB5 := Aside0.mk hB5
              clear hB6 hB5
              have hw1 : IntKind.i64.wrap ((i : Int) + 1) = (i : Int) + 1 := by rw [i64_w, wrap_succ i (by have := HSUM.out; have := HL60.out; omega)]; omega
              have hw2 : IntKind.i64.wrap ((i : Int) + (n : Int)) = (i : Int) + (n : Int) := wrap_add i n (by have := HSUM.out; have := HL60.out; omega)
              have HI60 : Aside0 (i + n ≤ 60) := ⟨by have := HSUM.out; have := HL60.out; omega⟩
              have HA60 : Aside0 (acc3.length + 1 ≤ 60) := ⟨by have := HCNT.out; have := hE.p60; omega⟩
              have HSt : Aside0 (EvStill wr w.heap.size ρ (.slice A5 row.length c5) (.slice A6 fs.length c6) u9 u10 row acc3 fs accK3 (some ap) ps2) := ⟨⟨hE.row, hE.fs, hE.up, hE.ks, hE.parts, hE.box, hE.old⟩⟩
              have HBl := Aside0.mk hE.below
              have HLK := Aside0.mk hE.lenK
              clear d5 d6 hpn p0 p1 hE
              refine start_ (n := 22) (S := fun w' => True) (ds := []) #[N_,N_,N_,N_,N_,N_,N_,N_,N_,N_,N_,N_,N_,N_,N_,N_,N_,N_,N_,N_,N_,N_] (by kernel_rfl) rfl rfl trivial (fun hHeld => ?_); refine with_tabW tabEv18 bitsEv18 (fun HT_ HW_ => ?_)
              refine pure_ (i := 0) (N := (some 59)) (v := ?_) (a' := ?_) #[Y_,N_,N_,N_,N_,N_,N_,N_,N_,N_,N_,N_,N_,N_,N_,N_,N_,N_,N_,N_,N_,N_] rfl rfl (any_of HT_.out (by kernel_rfl)) (fun _ _ _ h => h) (Or.inl ⟨by rfl, ?_⟩) ?_ ?_
              rotate_left; · intro w'; go_simp; with_reducible rfl
              rotate_left; · simp only [Act.put, u1_, u2_, u3_, i64_w, i32_w]; rfl
              refine pure_ (i := 2) (N := (some 61)) (v := ?_) (a' := ?_) #[Y_,N_,Y_,N_,N_,N_,N_,N_,N_,N_,N_,N_,N_,N_,N_,N_,N_,N_,N_,N_,N_,N_] rfl rfl (any_of HT_.out (by kernel_rfl)) (fun _ _ _ h => h) (Or.inl ⟨by rfl, ?_⟩) ?_ ?_
              rotate_left; · intro w'; go_simp; with_reducible rfl
              rotate_left; · simp only [Act.put, u1_, u2_, u3_, i64_w, i32_w]; rfl
              refine pure_ (i := 3) (N := (some 62)) (v := ?_) (a' := ?_) #[Y_,N_,Y_,Y_,N_,N_,N_,N_,N_,N_,N_,N_,N_,N_,N_,N_,N_,N_,N_,N_,N_,N_] rfl rfl (any_of HT_.out (by kernel_rfl)) (fun _ _ _ h => h) (Or.inl ⟨by rfl, ?_⟩) ?_ ?_
              rotate_left; · intro w'; go_simp; with_reducible rfl
              rotate_left; · simp only [Act.put, u1_, u2_, u3_, i64_w, i32_w]; rfl
              refine pure_ (i := 4) (N := (some 63)) (v := ?_) (a' := ?_) #[Y_,N_,Y_,Y_,Y_,N_,N_,N_,N_,N_,N_,N_,N_,N_,N_,N_,N_,N_,N_,N_,N_,N_] rfl rfl (any_of HT_.out (by kernel_rfl)) (fun _ _ _ h => h) (Or.inl ⟨by rfl, ?_⟩) ?_ ?_
              rotate_left; · intro w'; go_simp; with_reducible rfl
              rotate_left; · simp only [Act.put, u1_, u2_, u3_, i64_w, i32_w]; rfl
              refine pure_ (i := 5) (N := (some 64)) (v := ?_) (a' := ?_) #[Y_,N_,Y_,Y_,Y_,Y_,N_,N_,N_,N_,N_,N_,N_,N_,N_,N_,N_,N_,N_,N_,N_,N_] rfl rfl (any_of HT_.out (by kernel_rfl)) (fun _ _ _ h => h) (Or.inl ⟨by rfl, ?_⟩) ?_ ?_
              rotate_left; · intro w'; go_simp; with_reducible rfl
              rotate_left; · simp only [Act.put, u1_, u2_, u3_, i64_w, i32_w]; rfl
              refine pure_ (i := 6) (N := (some 65)) (v := ?_) (a' := ?_) #[Y_,N_,Y_,Y_,Y_,Y_,Y_,N_,N_,N_,N_,N_,N_,N_,N_,N_,N_,N_,N_,N_,N_,N_] rfl rfl (any_of HT_.out (by kernel_rfl)) (fun _ _ _ h => h) (Or.inl ⟨by rfl, ?_⟩) ?_ ?_
              rotate_left; · intro w'; go_simp; with_reducible rfl
              rotate_left; · simp only [Act.put, u1_, u2_, u3_, i64_w, i32_w]; rfl
              refine pure_ (i := 7) (N := (some 66)) (v := ?_) (a' := ?_) #[Y_,N_,Y_,Y_,Y_,Y_,Y_,Y_,N_,N_,N_,N_,N_,N_,N_,N_,N_,N_,N_,N_,N_,N_] rfl rfl (any_of HT_.out (by kernel_rfl)) (fun _ _ _ h => h) (Or.inl ⟨by rfl, ?_⟩) ?_ ?_
              rotate_left; · intro w'; go_simp; with_reducible rfl
              rotate_left; · simp only [Act.put, u1_, u2_, u3_, i64_w, i32_w]; rfl
              refine pure_ (i := 8) (N := (some 67)) (v := ?_) (a' := ?_) #[Y_,N_,Y_,Y_,Y_,Y_,Y_,Y_,Y_,N_,N_,N_,N_,N_,N_,N_,N_,N_,N_,N_,N_,N_] rfl rfl (any_of HT_.out (by kernel_rfl)) (fun _ _ _ h => h) (Or.inl ⟨by rfl, ?_⟩) ?_ ?_
              rotate_left; · intro w'; go_simp; with_reducible rfl
              rotate_left; · simp only [Act.put, u1_, u2_, u3_, i64_w, i32_w]; rfl
              refine pure_ (i := 11) (N := (some 70)) (v := ?_) (a' := ?_) #[Y_,N_,Y_,Y_,Y_,Y_,Y_,Y_,Y_,N_,N_,Y_,N_,N_,N_,N_,N_,N_,N_,N_,N_,N_] rfl rfl (any_of HT_.out (by kernel_rfl)) (fun _ _ _ h => h) (Or.inl ⟨by rfl, ?_⟩) ?_ ?_
              rotate_left; · intro w'; go_simp; with_reducible rfl
              rotate_left; · simp only [Act.put, u1_, u2_, u3_, i64_w, i32_w]; rfl
              refine pure_ (i := 12) (N := (some 71)) (v := ?_) (a' := ?_) #[Y_,N_,Y_,Y_,Y_,Y_,Y_,Y_,Y_,N_,N_,Y_,Y_,N_,N_,N_,N_,N_,N_,N_,N_,N_] rfl rfl (any_of HT_.out (by kernel_rfl)) (fun _ _ _ h => h) (Or.inl ⟨by rfl, ?_⟩) ?_ ?_
              rotate_left; · intro w'; go_simp; with_reducible rfl
              rotate_left; · simp only [Act.put, u1_, u2_, u3_, i64_w, i32_w]; rfl
              refine pure_ (i := 13) (N := (some 72)) (v := ?_) (a' := ?_) #[Y_,N_,Y_,Y_,Y_,Y_,Y_,Y_,Y_,N_,N_,Y_,Y_,Y_,N_,N_,N_,N_,N_,N_,N_,N_] rfl rfl (any_of HT_.out (by kernel_rfl)) (fun _ _ _ h => h) (Or.inl ⟨by rfl, ?_⟩) ?_ ?_
              rotate_left; · intro w'; go_simp; with_reducible rfl
              rotate_left; · simp only [Act.put, u1_, u2_, u3_, i64_w, i32_w]; rfl
              refine pure_ (i := 14) (N := (some 73)) (v := ?_) (a' := ?_) #[Y_,N_,Y_,Y_,Y_,Y_,Y_,Y_,Y_,N_,N_,Y_,Y_,Y_,Y_,N_,N_,N_,N_,N_,N_,N_] rfl rfl (any_of HT_.out (by kernel_rfl)) (fun _ _ _ h => h) (Or.inl ⟨by rfl, ?_⟩) ?_ ?_
              rotate_left; · intro w'; go_simp; with_reducible rfl
              rotate_left; · simp only [Act.put, u1_, u2_, u3_, i64_w, i32_w]; rfl
              refine pure_ (i := 15) (N := (some 74)) (v := ?_) (a' := ?_) #[Y_,N_,Y_,Y_,Y_,Y_,Y_,Y_,Y_,N_,N_,Y_,Y_,Y_,Y_,Y_,N_,N_,N_,N_,N_,N_] rfl rfl (any_of HT_.out (by kernel_rfl)) (fun _ _ _ h => h) (Or.inl ⟨by rfl, ?_⟩) ?_ ?_
              rotate_left; · intro w'; go_simp; with_reducible rfl
              rotate_left; · simp only [Act.put, u1_, u2_, u3_, i64_w, i32_w]; rfl
              refine pure_ (i := 16) (N := (some 75)) (v := ?_) (a' := ?_) #[Y_,N_,Y_,Y_,Y_,Y_,Y_,Y_,Y_,N_,N_,Y_,Y_,Y_,Y_,Y_,Y_,N_,N_,N_,N_,N_] rfl rfl (any_of HT_.out (by kernel_rfl)) (fun _ _ _ h => h) (Or.inl ⟨by rfl, ?_⟩) ?_ ?_
              rotate_left; · intro w'; go_simp; with_reducible rfl
              rotate_left; · simp only [Act.put, u1_, u2_, u3_, i64_w, i32_w]; rfl
              have HSd := Aside0.mk (HSt.out.mv (c := 7) (ρ1 := ρ) (w1 := wr.drew) ⟨Nat.le_refl _, fun k _ _ => rfl, fun _ _ _ => rfl⟩ (by omega))
              have HBd := Aside0.mk (below_drew HBl.out)
              clear hHeld
              generalize wr.drew = wd at HSd HBd ⊢
              have HML : Aside0 (((fs.take (i + n)).drop (i + 1)).length = i + n - (i + 1)) := ⟨by rw [List.length_drop, List.length_take, Nat.min_eq_left (by omega)]⟩
              have HMR : Aside0 (((row.take (i + n)).drop i).length = n) := ⟨by rw [List.length_drop, List.length_take, Nat.min_eq_left (by omega)]; omega⟩
              have HIF : Aside0 (i + 1 ≤ i + n ∧ i + n ≤ fs.length ∧ i + n ≤ row.length) := ⟨by omega⟩
              refine chainsP_ HT_.out [[1, 9], [10], []] [17, 18, 19, 20, 21] [(60, 1), (68, 9), (69, 10)] #[Y_,Y_,Y_,Y_,Y_,Y_,Y_,Y_,Y_,Y_,Y_,Y_,Y_,Y_,Y_,Y_,Y_,N_,N_,N_,N_,N_] (by kernel_rfl) (by kernel_rfl) (fun w' => Below w.heap.size w w') (Ev18A w.heap.size (.slice A5 row.length c5) (.slice A6 fs.length c6) u9 u10 row acc3 fs accK3 (some ap) ps2 ((fs.take (i + n)).drop (i + 1))) (fun w' h => trivial) ρ HBd.out ?_ Ev18A.dep Ev18A.still ?_ ?_
              · intro q hq u
                match q, hq with
                | 0, _ => exact trivial
                | 1, _ => exact trivial
                | 2, _ => exact HSd.out
              · intro q p hq hp u ρ w' hb hstill hA
                have hsz := hb.size
                match q, hq, p, hp, hA with
                | 0, _, 0, _, hA =>
                  refine cstep_ (i := 1) (s := 60) (a1 := ?_) rfl rfl rfl rfl ?_ ?_
                  rotate_left; · simp only [puts, Act.put, u1_, u2_, u3_]; rfl
                  intro K hK
                  refine value_ (v := .slice (some ⟨w'.heap.size, 0, none⟩) 0 0) (w1 := w'.alloc (.cells #[] 2)) (by rfl) rfl (by go_simp) ?_
                  exact hK.out _ (paint ρ w'.heap.size 0) _ (below_alloc hb _) (MvC.alloc _) (R_none _ _ _ _ hsz _ _)
                | 0, _, 1, _, hA =>
                  have hfs := (hstill 2 (by simp) rfl).2.1
                  have hC6 : (Kd.int .i64).C w' B6 (i + n - (i + 1)) ((fs.take (i + n)).drop (i + 1)) := by
                    rw [← HML.out, HB6.out]
                    exact Kd.F_now (Kd.F_mid (Kd.R_F hfs) HIF.out.1 HIF.out.2.1 (Kd.R_reads' hfs).2.1)
                  refine cstep_ (i := 9) (s := 68) (a1 := ?_) rfl rfl rfl rfl ?_ ?_
                  rotate_left; · simp only [puts, Act.put, u1_, u2_, u3_]; rfl
                  intro K hK
                  refine Kd.R_append_rows_step (Kd.int .i64) (w0 := w) w.heap.size (by rfl) (.tmp 60) (.tmp 67) 28 2 (.int .i64 0) 8 rfl Tryz.underlying28 info2 rfl (by decide) (by omega) (u 1) [] ((fs.take (i + n)).drop (i + 1)) B6 (i + n - (i + 1)) (c6 - (i + 1)) (fun k => paint ρ w'.heap.size 0 k = 0) (fun _ => False) (by rfl) (by rfl) (R_tint hA (fun k hk h => (if_pos hk).trans h)) hC6 (fun x cs h => h) (fun _ hk => hk.elim) (fun k hk => if_neg (by omega)) hb hsz (by have := HI60.out; rw [List.length_nil]; omega) ?_
                  intro v1 w1 hR hb1 hg hat
                  exact hK.out v1 (paint ρ w'.heap.size 0) w1 hb1 (MvC.grown hg (fun k hk => by rw [hA.1 k hk])) (by rw [List.nil_append] at hR; exact hR)
                | 0, _, p + 2, hp, _ => exact absurd hp (by simp)
                | 1, _, 0, _, hA =>
                  refine cstep_ (i := 10) (s := 69) (a1 := ?_) rfl rfl rfl rfl ?_ ?_
                  rotate_left; · simp only [puts, Act.put, u1_, u2_, u3_]; rfl
                  intro K hK
                  refine value_ (v := .slice (some ⟨w'.heap.size, 0, none⟩) 0 0) (w1 := w'.alloc (.cells #[] 42)) (by rfl) rfl (by go_simp) ?_
                  exact hK.out _ (paint ρ w'.heap.size 8) _ (below_alloc hb _) (MvC.alloc _) ⟨Kd.N_mono (Kd.R_N (R_none kSh _ _ _ hsz ρ 8)) (fun k hk => .inl hk), (R_none kSh 42 _ _ hsz ρ 8).1⟩
                | 1, _, p + 1, hp, _ => exact absurd hp (by simp)
                | 2, _, p, hp, _ => exact absurd hp (by simp)
                | q + 3, hq, _, _, _ => exact absurd hq (by simp)
              · intro u ρ w' hb hA
                have h0 := hA 0 (by simp)
                have h1 := hA 1 (by simp)
                have h2 := hA 2 (by simp)
                clear hA
                have hsz := hb.size
                have h0' : (Kd.int .i64).R 2 w' w.heap.size (fun k => ρ k = 0) (u 9) ((fs.take (i + n)).drop (i + 1)) := h0
                have h1' : Row ρ 8 Y16 w' w.heap.size (u 10) [] := h1
                have h2' : EvStill w' w.heap.size ρ (.slice A5 row.length c5) (.slice A6 fs.length c6) u9 u10 row acc3 fs accK3 (some ap) ps2 := h2
                clear h0 h1 h2
                refine norm_ (a' := ?_) ?_ ?_
                rotate_left; · simp only [puts, Act.put, u1_, u2_, u3_]; rfl
                have hCR : kSh.F w' (fun k => ρ k = 16 ∧ k < w'.heap.size) B5 n ((row.take (i + n)).drop i) := by
                  have h := Kd.F_mid (Kd.N_F h2'.1.row) (lo := i) (hi := i + n) (by omega) HIF.out.2.2 (Kd.N_reads' h2'.1.row).2.1
                  rw [HMR.out] at h
                  rw [HB5.out]
                  exact Kd.F_mono (Kd.F_bound h) (fun k hk => ⟨hk.1.elim id (fun h => h), hk.2⟩)
                refine one_ (i := 17) (N := (some 76)) #[Y_,Y_,Y_,Y_,Y_,Y_,Y_,Y_,Y_,Y_,Y_,Y_,Y_,Y_,Y_,Y_,Y_,Y_,N_,N_,N_,N_] rfl rfl (one_of HT_.out (by kernel_rfl)) (by decide) (fun K_ hK => ?_)
                refine Kd.N_append_rows_step kSh (w0 := w) w.heap.size (by rfl) (.tmp 69) (.tmp 75) 40 42 (.agg #[(.bool false), (.bool false), (.slice none 0 0), (.slice none 0 0), (.slice none 0 0)]) 80 rfl Tryz.underlying40 info42 rfl (by decide) (by omega) (u 10) [] ((row.take (i + n)).drop i) B5 n (c5 - i) (fun k => paint ρ w'.heap.size 8 k = 8 ∨ Y16 (paint ρ w'.heap.size 8 k)) (fun k => ρ k = 16 ∧ k < w'.heap.size) (by rfl) (by rfl)
                  (Kd.N_mono (Kd.N_bound h1'.row) (fun k hk => by rw [show paint ρ w'.heap.size 8 k = ρ k from if_pos hk.2]; exact hk.1)) hCR
                  (fun k hk => ⟨.inr ((if_pos hk.2).trans hk.1), fun e => by have := h1'.own k e.symm; have := hk.1; omega⟩) (fun k hk => .inl (if_neg (by omega))) hb hsz (by have := HI60.out; rw [List.length_nil]; omega) ?_
                intro v17 w17 hN hb17 hg17 hat17
                refine hK.out _ _ trivial (fun hHeld => ?_)
                clear hK K_ hCR
                rw [List.nil_append] at hN
                have m17 : MvC 1 ρ (paint ρ w'.heap.size 8) w' w17 := MvC.grown hg17 (fun k hk => by rw [h1'.own k hk])
                have r17 : Row (paint ρ w'.heap.size 8) 8 Y16 w17 w.heap.size v17 ((row.take (i + n)).drop i) := ⟨hN, own_paint hat17 h1'.own (Kd.N_lt h1'.row)⟩
                have k17 := R_mv h0' m17 (by omega)
                have s17 := h2'.mv m17 (by omega)
                generalize paint ρ w'.heap.size 8 = ρ1 at r17 k17 s17
                clear m17 hN hg17 hat17 h0' h1' h2' hb hsz hHeld
                obtain ⟨A0, c0, e0⟩ := Kd.R_slice k17
                obtain ⟨A17, c17, e17⟩ := Kd.N_slice r17.row
                rw [e0] at k17 ⊢
                subst e17
                clear e0
                generalize hrows : (row.take (i + n)).drop i = rows at r17 ⊢
                generalize hks : (fs.take (i + n)).drop (i + 1) = ks at k17 ⊢
                have HROWS := Aside0.mk hrows
                have HKS := Aside0.mk hks
                clear hrows hks
                refine norm_ (a' := ?_) ?_ ?_
                rotate_left; · show Act.put _ (some 76) _ = _; simp only [Act.put, u1_, u2_, u3_, i64_w, i32_w]; rfl
                refine pure_ (i := 18) (N := (some 77)) (v := ?_) (a' := ?_) #[Y_,Y_,Y_,Y_,Y_,Y_,Y_,Y_,Y_,Y_,Y_,Y_,Y_,Y_,Y_,Y_,Y_,Y_,Y_,N_,N_,N_] rfl rfl (any_of HT_.out (by kernel_rfl)) (fun _ _ _ h => h) (Or.inl ⟨by rfl, ?_⟩) ?_ ?_
                rotate_left; · intro w'; go_simp; with_reducible rfl
                rotate_left; · simp only [Act.put, u1_, u2_, u3_, i64_w, i32_w]; rfl
                refine one_ (i := 19) (N := (some 78)) #[Y_,Y_,Y_,Y_,Y_,Y_,Y_,Y_,Y_,Y_,Y_,Y_,Y_,Y_,Y_,Y_,Y_,Y_,Y_,Y_,N_,N_] rfl rfl (one_of HT_.out (by kernel_rfl)) (by decide) (fun K_ hK => ?_)
                refine value_ (v := .slice (some ⟨w17.heap.size, 0, none⟩) 1 1) (w1 := w17.alloc (.cells #[.bool false, .bool false, .slice none 0 0, .slice A0 ks.length c0, .slice A17 rows.length c17] 42)) (by rfl) rfl (by go_simp) ?_
                refine hK.out _ _ trivial (fun hHeld => ?_)
                clear hK K_
                have r19 := r17.allocd (.cells #[.bool false, .bool false, .slice none 0 0, .slice A0 ks.length c0, .slice A17 rows.length c17] 42) 9
                have k19 := R_col k17 (col_alloc (.cells #[.bool false, .bool false, .slice none 0 0, .slice A0 ks.length c0, .slice A17 rows.length c17] 42) 9)
                have s19 := s17.mv (MvC.alloc (c := 1) (x := 9) (.cells #[.bool false, .bool false, .slice none 0 0, .slice A0 ks.length c0, .slice A17 rows.length c17] 42)) (by omega)
                have b19 := Bl.new ρ1 9 w17 (.cells #[.bool false, .bool false, .slice none 0 0, .slice A0 ks.length c0, .slice A17 rows.length c17] 42 (0, 0))
                have hb19 := below_alloc hb17 (.cells #[.bool false, .bool false, .slice none 0 0, .slice A0 ks.length c0, .slice A17 rows.length c17] 42)
                clear hHeld r17 k17 s17 hb17
                generalize paint ρ1 w17.heap.size 9 = ρ2 at r19 k19 s19 b19
                generalize w17.alloc (.cells #[.bool false, .bool false, .slice none 0 0, .slice A0 ks.length c0, .slice A17 rows.length c17] 42) = w19 at r19 k19 s19 b19 hb19 ⊢
                generalize w17.heap.size = g at b19 ⊢
                refine norm_ (a' := ?_) ?_ ?_
                rotate_left; · show Act.put _ (some 78) _ = _; simp only [Act.put, u1_, u2_, u3_, i64_w, i32_w]; rfl
                refine one_ (i := 20) (N := (some 79)) #[Y_,Y_,Y_,Y_,Y_,Y_,Y_,Y_,Y_,Y_,Y_,Y_,Y_,Y_,Y_,Y_,Y_,Y_,Y_,Y_,Y_,N_] rfl rfl (one_of HT_.out (by kernel_rfl)) (by decide) (fun K_ hK => ?_)
                have hlt := blk_lt b19.1
                have hsz := hb19.size
                have hfk : kSh.FK w19 (fun k => (ρ2 k = 16 ∨ ρ2 k = 0 ∨ ρ2 k = 8) ∧ k < w19.heap.size) (⟨false, false, [], ks, rows⟩ : Sh) [.bool false, .bool false, .slice none 0 0, .slice A0 ks.length c0, .slice A17 rows.length c17] :=
                  k42_mkF w19 _ ⟨false, false, [], ks, rows⟩ (Nat.le_refl _) (Kd.F_nil _ _ _) (Kd.R_reads' k19).2.1 (Kd.F_mono (Kd.F_bound (Kd.R_F k19)) (fun k hk => ⟨.inr (.inl hk.1), hk.2⟩)) (Kd.N_reads' r19.row).2.1 (Kd.F_mono (Kd.F_bound (Kd.N_F r19.row)) (fun k hk => ⟨hk.1.elim (fun h => .inr (.inr h)) (fun h => .inl h), hk.2⟩))
                refine Kd.N_append_rows_step kSh (w0 := w) w.heap.size (by rfl) (.tmp 59) (.tmp 78) 40 42 (.agg #[(.bool false), (.bool false), (.slice none 0 0), (.slice none 0 0), (.slice none 0 0)]) 80 rfl Tryz.underlying40 info42 rfl (by decide) (by omega) u9 acc3 [⟨false, false, [], ks, rows⟩] (some ⟨g, 0, none⟩) 1 1 (fun k => paint ρ2 w19.heap.size 21 k = 21 ∨ (paint ρ2 w19.heap.size 21 k = 16 ∨ paint ρ2 w19.heap.size 21 k = 0 ∨ paint ρ2 w19.heap.size 21 k = 8 ∨ paint ρ2 w19.heap.size 21 k = 9)) (fun k => k = g ∨ ((ρ2 k = 16 ∨ ρ2 k = 0 ∨ ρ2 k = 8) ∧ k < w19.heap.size)) (by rfl) (by rfl)
                  (Kd.N_mono (Kd.N_bound s19.2.2.1.row) (fun k hk => by rw [show paint ρ2 w19.heap.size 21 k = ρ2 k from if_pos hk.2]; exact hk.1.imp id (fun h => .inl h))) (one_F b19.1 hfk)
                  (fun k hk => by
                    rcases hk with rfl | ⟨h1, h2⟩
                    · rw [show paint ρ2 w19.heap.size 21 k = ρ2 k from if_pos hlt, b19.2]
                      exact ⟨.inr (.inr (.inr (.inr rfl))), fun e => by have := s19.2.2.1.own k e.symm; have := b19.2; omega⟩
                    · rw [show paint ρ2 w19.heap.size 21 k = ρ2 k from if_pos h2]
                      exact ⟨.inr (h1.imp id (fun h => h.imp id .inl)), fun e => by have := s19.2.2.1.own k e.symm; omega⟩)
                  (fun k hk => .inl (if_neg (by omega))) hb19 hsz (by have := HA60.out; omega) ?_
                intro v20 w20 hN2 hb20 hg20 hat20
                refine hK.out _ _ trivial (fun hHeld => ?_)
                clear hK K_
                have o20 := own_paint hat20 s19.2.2.1.own (Kd.N_lt s19.2.2.1.row)
                have u20 : Row (paint ρ2 w19.heap.size 21) 21 (fun c => c = 16 ∨ c = 0 ∨ c = 8 ∨ c = 9) w20 w.heap.size v20 (acc3 ++ [⟨false, false, [], ks, rows⟩]) := ⟨hN2, o20⟩
                obtain ⟨q1, q2, q3, q4, q5, q6⟩ := s19.grown hg20 21
                have HU3 := Aside0.mk (u20.tint (ρ1 := fade2 (paint ρ2 w19.heap.size 21)) (y := 21) (Y1 := Y16) (fun k _ h => fade2_keep h (by omega)) (fun k _ h => fade2_16 h))
                have HQ1 := Aside0.mk (q1.tint (ρ1 := fade2 (paint ρ2 w19.heap.size 21)) (y := 16) (Y1 := Y16) (fun k _ h => fade2_keep h (by omega)) (fun k _ h => fade2_16 (.inl h)))
                have HQ2 := Aside0.mk (R_tint q2 (ρ1 := fade2 (paint ρ2 w19.heap.size 21)) (y := 20) (fun k _ h => fade2_keep h (by omega)))
                have HQ3 := Aside0.mk (R_tint q3 (ρ1 := fade2 (paint ρ2 w19.heap.size 21)) (y := 22) (fun k _ h => fade2_keep h (by omega)))
                have HQ4 := Aside0.mk (F_tint q4 (ρ1 := fade2 (paint ρ2 w19.heap.size 21)) (y := 17) (fun k _ h => fade2_keep h (by omega)))
                have HQ5 := Aside0.mk (q5.tint (ρ1 := fade2 (paint ρ2 w19.heap.size 21)) (y := 18) (fun k _ h => fade2_keep h (by omega)))
                have HB20 := Aside0.mk hb20
                have HQO := Aside0.mk (fade2_old q6)
                clear u20 q1 q2 q3 q4 q5 q6 o20 hN2 hb20 hg20 hat20 hfk r19 k19 s19 b19 hb19 hlt hsz hHeld
                generalize fade2 (paint ρ2 w19.heap.size 21) = ρ3 at HU3 HQ1 HQ2 HQ3 HQ4 HQ5 HQO
                refine norm_ (a' := ?_) ?_ ?_
                rotate_left; · show Act.put _ (some 79) _ = _; simp only [Act.put, u1_, u2_, u3_, i64_w, i32_w]; rfl
                refine pure_ (i := 21) (N := (some 9)) (v := ?_) (a' := ?_) #[Y_,Y_,Y_,Y_,Y_,Y_,Y_,Y_,Y_,Y_,Y_,Y_,Y_,Y_,Y_,Y_,Y_,Y_,Y_,Y_,Y_,Y_] rfl rfl (any_of HT_.out (by kernel_rfl)) (fun _ _ _ h => h) (Or.inl ⟨by rfl, ?_⟩) ?_ ?_
                rotate_left; · intro w'; go_simp; with_reducible rfl
                rotate_left; · simp only [Act.put, u1_, u2_, u3_, i64_w, i32_w]; rfl
                refine done_ (done_of HT_.out (by kernel_rfl)) ?_
                clear HT_ HW_ hq1 hq2
                obtain ⟨a6, ha6⟩ : ∃ a6, A6 = some a6 := by
                  obtain ⟨a6, h, _⟩ := (Kd.R_reads' HQ2.out).2.2.2.2 (by have := HIF.out; have := HN1.out; omega)
                  exact ⟨a6, h⟩
                subst ha6
                have hfi := Kd.foot_int (Kd.R_reads' HQ2.out).2.2 (i : Int) (by omega) (by have := HIF.out; have := HN1.out; omega)
                rw [Int.toNat_natCast] at hfi
                generalize hfk : rd fs (i : Int) = fk at hfi
                have HFK := Aside0.mk hfk
                have i0 : (0 : Int) ≤ (i : Int) := by omega
                have i1 : (i : Int) < (fs.length : Int) := by have := HIF.out; have := HN1.out; omega
                clear hfk hw1
                go_upto_region 20 with ((with_reducible refine gate_builtin (b := .append) (xs := #[.tmp 80, .tmp 85]) rfl ?_); at_builtin; refine Kd.R_append (Kd.int .i64) (w0 := w) w.heap.size rfl (.tmp 80) (.tmp 85) 28 2 (.int .i64 0) 8 rfl Tryz.underlying28 info2 rfl (by decide) (by omega) u10 accK3 fk [.int .i64 fk] (fun k => paint ρ3 w20.heap.size 22 k = 22) (fun _ => False) rfl rfl rfl (fun _ hk => hk.elim) (fun k hk => if_neg (by omega)) (R_tint HQ3.out (fun k hk h => (if_pos hk).trans h)) HB20.out HB20.out.size (by have := HA60.out; have := HLK.out; omega) ?_; intro v21 w21 hR hb21 hg21 hat21; have HR21 := Aside0.mk hR; have HB21 := Aside0.mk hb21; have HG21 := Aside0.mk hg21; clear hR hb21 hg21 hat21)
                have hne : ∀ x, x ≠ 22 → ∀ k, u10.ownBlock = some k → ρ3 k ≠ x := fun x hx k hk => by rw [HQ3.out.1 k hk]; exact fun e => hx e.symm
                have HU4 := Aside0.mk (HU3.out.grown HG21.out (fun k hk => by rw [HQ3.out.1 k hk]; exact ⟨by omega, by unfold Y16; omega⟩) 22)
                have HQ6 := Aside0.mk (HQ1.out.grown HG21.out (fun k hk => by rw [HQ3.out.1 k hk]; exact ⟨by omega, by unfold Y16; omega⟩) 22)
                have HQ7 := Aside0.mk (R_col HQ2.out (col_grown HG21.out 22 (hne 20 (by omega))))
                have HQ8 := Aside0.mk (F_col HQ4.out (col_grown HG21.out 22 (hne 17 (by omega))))
                have HQ9 := Aside0.mk (HQ5.out.col (col_grown HG21.out 22 (hne 18 (by omega))))
                have HB20L := Aside0.mk HB20.out.size
                clear HU3 HQ1 HQ2 HQ3 HQ4 HQ5 HG21 HB20 hne hfi i0 i1
                go_wp2_with fail
                go_round
                case rel =>
                  refine ⟨paint ρ3 w20.heap.size 22, i + n, ns, acc3 ++ [⟨false, false, [], ks, rows⟩], accK3 ++ [fk], ⟨?_⟩⟩
                  have hE := HE.out
                  have hcnt := HCNT.out
                  exact {
                    e11 := by rw [Int.natCast_add]
                    e55 := by rw [List.length_append, List.length_singleton, wrap_succ _ (by have := HA60.out; omega)]
                    sum := by have := HSUM.out; omega
                    pos := fun m hm => hE.pos m (List.mem_cons_of_mem _ hm)
                    cnt := by rw [List.length_append, List.length_singleton]; omega
                    p60 := hE.p60
                    told := fun j => by
                      have h := hE.told (j + 1)
                      rw [List.getD_cons_succ] at h
                      rw [List.length_append, List.length_singleton, show acc3.length + 1 + j = acc3.length + (j + 1) by omega]
                      exact h
                    eR := by have h := hE.eR; rw [upRow, HROWS.out, HKS.out] at h; rw [← h, List.append_assoc]; rfl
                    eK := by have h := hE.eK; rw [upKey, HFK.out] at h; rw [← h, List.append_assoc]; rfl
                    lenK := by rw [List.length_append, List.length_append, hE.lenK]; rfl
                    below := HB21.out
                    row := HQ6.out
                    fs := HQ7.out
                    up := HU4.out
                    ks := HR21.out
                    parts := HQ8.out
                    box := HQ9.out
                    old := paint_old HQO.out HB20L.out }
                case measure => exact meas_succ (by have := HCNT.out; omega) (by have := HA60.out; omega)
        · have d7 : decide ((row.length : Int) > 1) = false := decide_eq_false (by omega)
          have d8 : decide (1 < row.length) = false := decide_eq_false hlt
          have hp1 := HE.out.pos
          have HS := Aside0.mk ((evenUp_done (b := b) (f := f) (fs := fs) hlt).symm.trans HE.out.eU)
          obtain ⟨g5, cap5, e5, _⟩ := Kd.N_form HE.out.row.row (by omega)
          injection e5 with e5 _ _
          subst e5
          obtain ⟨cs, hcl, hfk, hcc⟩ := Kd.N_get HE.out.row.row zSh 0 (by omega) (by omega)
          obtain ⟨A2, c2, A3, c3, A4, c4, rfl, _⟩ := k42_openF hfk
          have hs0 : row.headD zSh = row.getD (0 : Int).toNat zSh := by cases row <;> rfl
          rw [← hs0, HS.out] at hfk hcc
          have HFK : Aside0 (kSh.FK wr (fun k => ρ k = 16) (evenT xs b) [.bool (evenT xs b).f0, .bool (evenT xs b).f1, .slice A2 (evenT xs b).f2.length c2, .slice A3 (evenT xs b).f3.length c3, .slice A4 (evenT xs b).f4.length c4]) := ⟨Kd.FK_mono hfk (fun k hk => hk.1.elim id (fun h => h))⟩
          have e0 := hcc 0 _ rfl
          have e1 := hcc 1 _ rfl
          have e2 := hcc 2 _ rfl
          have e3 := hcc 3 _ rfl
          have e4 := hcc 4 _ rfl
          rw [add_at] at e0 e1 e2 e3 e4
          have e0 : wr.cell? ⟨g5, 0, none⟩ = some (.bool (evenT xs b).f0) := e0
          have e1 : wr.cell? ⟨g5, 1, none⟩ = some (.bool (evenT xs b).f1) := e1
          have e2 : wr.cell? ⟨g5, 2, none⟩ = some (.slice A2 (evenT xs b).f2.length c2) := e2
          have e3 : wr.cell? ⟨g5, 3, none⟩ = some (.slice A3 (evenT xs b).f3.length c3) := e3
          have e4 : wr.cell? ⟨g5, 4, none⟩ = some (.slice A4 (evenT xs b).f4.length c4) := e4
          obtain ⟨S0, hS0⟩ : ∃ S0, S0 = evenT xs b := ⟨_, rfl⟩
          rw [← hS0] at HFK e0 e1 e2 e3 e4
          have HS0 := Aside0.mk hS0
          clear hS0
          have HBX := Aside0.mk HE.out.box
          have HRO := Aside0.mk HE.out.old
          have HBW := Aside0.mk HE.out.below
          have hbx : wr.heap[w.heap.size]? = some (.cells #[.bool false, .bool false, .slice none 0 0, .slice none 0 0, .slice none 0 0] 42 (0, 0)) := HE.out.box.1
          have y0 := (blk_cell hbx 0).trans (rfl : _ = some (Value.bool false))
          have y1 := (blk_cell hbx 1).trans (rfl : _ = some (Value.bool false))
          have y2 := (blk_cell hbx 2).trans (rfl : _ = some (Value.slice none 0 0))
          have y3 := (blk_cell hbx 3).trans (rfl : _ = some (Value.slice none 0 0))
          have y4 := (blk_cell hbx 4).trans (rfl : _ = some (Value.slice none 0 0))
          have z0 := blk_frozen hbx 0
          have z1 := blk_frozen hbx 1
          have z2 := blk_frozen hbx 2
          have z3 := blk_frozen hbx 3
          have z4 := blk_frozen hbx 4
          have n0 : (0 : Int) < (row.length : Int) := by omega
          have n1 : (0 < row.length) = True := eq_true (by omega)
          clear hcl hfk hcc hs0 hp1 HE HS hbx
          go_wp2_with fail
          have HB6 : Aside0 ((((((wr.setCell ⟨w.heap.size, 0, none⟩ (.bool S0.f0)).setCell ⟨w.heap.size, 1, none⟩ (.bool S0.f1)).setCell ⟨w.heap.size, 2, none⟩ (.slice A2 S0.f2.length c2)).setCell ⟨w.heap.size, 3, none⟩ (.slice A3 S0.f3.length c3)).setCell ⟨w.heap.size, 4, none⟩ (.slice A4 S0.f4.length c4)).heap[w.heap.size]? = some (.cells #[.bool S0.f0, .bool S0.f1, .slice A2 S0.f2.length c2, .slice A3 S0.f3.length c3, .slice A4 S0.f4.length c4] 42 (0, 0))) := ⟨blk_set (blk_set (blk_set (blk_set (blk_set HBX.out.1 0 (.bool S0.f0)) 1 (.bool S0.f1)) 2 (.slice A2 S0.f2.length c2)) 3 (.slice A3 S0.f3.length c3)) 4 (.slice A4 S0.f4.length c4)⟩
          have HBE : Aside0 (Below w.heap.size w (((((wr.setCell ⟨w.heap.size, 0, none⟩ (.bool S0.f0)).setCell ⟨w.heap.size, 1, none⟩ (.bool S0.f1)).setCell ⟨w.heap.size, 2, none⟩ (.slice A2 S0.f2.length c2)).setCell ⟨w.heap.size, 3, none⟩ (.slice A3 S0.f3.length c3)).setCell ⟨w.heap.size, 4, none⟩ (.slice A4 S0.f4.length c4))) := ⟨((((HBW.out.setCell (p := ⟨w.heap.size, 0, none⟩) (Nat.le_refl _) _).setCell (p := ⟨w.heap.size, 1, none⟩) (Nat.le_refl _) _).setCell (p := ⟨w.heap.size, 2, none⟩) (Nat.le_refl _) _).setCell (p := ⟨w.heap.size, 3, none⟩) (Nat.le_refl _) _).setCell (p := ⟨w.heap.size, 4, none⟩) (Nat.le_refl _) _⟩
          have HFE : Aside0 (kSh.FK (((((wr.setCell ⟨w.heap.size, 0, none⟩ (.bool S0.f0)).setCell ⟨w.heap.size, 1, none⟩ (.bool S0.f1)).setCell ⟨w.heap.size, 2, none⟩ (.slice A2 S0.f2.length c2)).setCell ⟨w.heap.size, 3, none⟩ (.slice A3 S0.f3.length c3)).setCell ⟨w.heap.size, 4, none⟩ (.slice A4 S0.f4.length c4)) (fun k => w.heap.size ≤ k) S0 [.bool S0.f0, .bool S0.f1, .slice A2 S0.f2.length c2, .slice A3 S0.f3.length c3, .slice A4 S0.f4.length c4]) := ⟨by
            have hne : ∀ k, ρ k = 16 → k ≠ w.heap.size := fun k hk e => by have h := HBX.out.2; rw [← e, hk] at h; omega
            refine Kd.FK_mono (Kd.FK_step HFK.out (fun k hk _ => ?_)) (fun k hk => Nat.not_lt.1 (fun h => by have h := HRO.out k h; omega))
            rw [Below.heap_setCell _ _ _ k (hne k hk), Below.heap_setCell _ _ _ k (hne k hk), Below.heap_setCell _ _ _ k (hne k hk), Below.heap_setCell _ _ _ k (hne k hk), Below.heap_setCell _ _ _ k (hne k hk)]⟩
          clear e0 e1 e2 e3 e4 y0 y1 y2 y3 y4 z0 z1 z2 z3 z4
          generalize (((((wr.setCell ⟨w.heap.size, 0, none⟩ (.bool S0.f0)).setCell ⟨w.heap.size, 1, none⟩ (.bool S0.f1)).setCell ⟨w.heap.size, 2, none⟩ (.slice A2 S0.f2.length c2)).setCell ⟨w.heap.size, 3, none⟩ (.slice A3 S0.f3.length c3)).setCell ⟨w.heap.size, 4, none⟩ (.slice A4 S0.f4.length c4)) = we at HB6 HBE HFE ⊢
          (try simp only [Exit.inBlock, Exit.then])
          refine bodyPost_ret (results_cell_row rfl _ _ w.heap.size 42 _ (0, 0) _ rfl HB6.out Tryz.underlying42 rfl (by kernel_rfl)) rfl ?_
          exact ⟨[.bool S0.f0, .bool S0.f1, .slice A2 S0.f2.length c2, .slice A3 S0.f3.length c3, .slice A4 S0.f4.length c4], rfl, by rw [← HS0.out]; exact HFE.out, HBE.out⟩
    | cons n ns =>
      have hcnt := HE.out.cnt
      rw [List.length_cons] at hcnt
      have hsum := HE.out.sum
      rw [List.sum_cons] at hsum
      have hn1 := HE.out.pos n List.mem_cons_self
      have d5 : decide ((acc.length : Int) < (ps.length : Int)) = true := decide_eq_true (by omega)
      have d6 : decide (acc.length < ps.length) = true := decide_eq_true (by omega)
      have hpC := Kd.F_now HE.out.parts
      obtain ⟨ap, rfl⟩ : ∃ ap, pA = some ap := by
        obtain ⟨ap, h, _⟩ := hpC.2.2 (by omega)
        exact ⟨ap, h⟩
      have hpn := Kd.foot_int hpC (acc.length : Int) (by omega) (by omega)
      have htold := HE.out.told 0
      rw [Nat.add_zero, List.getD_cons_zero] at htold
      rw [htold, Int.toNat_natCast] at hpn
      have p0 : (0 : Int) ≤ (acc.length : Int) := by omega
      have p1 : (acc.length : Int) < (ps.length : Int) := by omega
      have HCNT := Aside0.mk hcnt
      have HSUM := Aside0.mk hsum
      have HN1 := Aside0.mk hn1
      clear hpC htold hcnt hsum hn1
      go_upto_region 8 with fail
      have hn0 : (0 : Int) ≤ (n : Int) := by omega
      have hny : (n : Int) ≤ (ys.length : Int) := by have := HSUM.out; omega
      have hy0 : (0 : Int) < (ys.length : Int) := by have := HSUM.out; have := HN1.out; omega
      obtain ⟨al, rfl, hk1, _⟩ := at_T31 HE.out.lC 0 (by omega) hy0
      have hal : World.cell? w al = some (.int .i64 (rd_T31 ys 0).f0) := by simpa [Addr.add_zero'] using hk1
      have hx : World.cell? wr al = some (.int .i64 (rd_T31 ys 0).f0) := (HE.out.below.cell (World.block_lt_of_cell? w _ hal)).trans hal
      have HAL := Aside0.mk (World.block_lt_of_cell? w _ hal)
      have HALC := Aside0.mk hal
      generalize hkk : (rd_T31 ys 0).f0 = kk at hx HALC
      have HKK := Aside0.mk hkk
      have hl0 : (0 < ys.length) = True := eq_true (by omega)
      have hcut := cut_to 24 31 .i64 Tryz.underlying24 hiP (some al) ys.length c (n : Int) hn0 hny HE.out.cap
      rw [Int.toNat_natCast] at hcut
      have HTK : Aside0 (kP.C w (some al) n (ys.take n)) := ⟨by have h := Kd.C_take HE.out.lC (m := n) (by omega); rwa [List.length_take, Nat.min_eq_left (by omega)] at h⟩
      have HN60 : Aside0 (n ≤ 60) := ⟨by have := HE.out.l60; omega⟩
      have HA60 : Aside0 (acc.length ≤ 60) := ⟨by have := HE.out.p60; have := HCNT.out; omega⟩
      clear hk1 hal hkk d5 d6 hpn p0 p1
      refine start_ (n := 18) (S := fun w' => w'.cell? al = some (.int .i64 kk)) (ds := []) #[N_,N_,N_,N_,N_,N_,N_,N_,N_,N_,N_,N_,N_,N_,N_,N_,N_,N_] (by kernel_rfl) rfl rfl hx (fun hHeld => ?_); refine with_tabW tabEv8 bitsEv8 (fun HT_ HW_ => ?_)
      refine pure_ (i := 0) (N := (some 27)) (v := ?_) (a' := ?_) #[Y_,N_,N_,N_,N_,N_,N_,N_,N_,N_,N_,N_,N_,N_,N_,N_,N_,N_] rfl rfl (any_of HT_.out (by kernel_rfl)) (fun _ _ _ h => h) (Or.inl ⟨by rfl, ?_⟩) ?_ ?_
      rotate_left; · intro w'; go_simp; with_reducible rfl
      rotate_left; · simp only [Act.put, u1_, u2_, u3_, i64_w, i32_w]; rfl
      refine pure_ (i := 2) (N := (some 29)) (v := ?_) (a' := ?_) #[Y_,N_,Y_,N_,N_,N_,N_,N_,N_,N_,N_,N_,N_,N_,N_,N_,N_,N_] rfl rfl (any_of HT_.out (by kernel_rfl)) (fun _ _ _ h => h) (Or.inl ⟨by rfl, ?_⟩) ?_ ?_
      rotate_left; · intro w'; go_simp; with_reducible rfl
      rotate_left; · simp only [Act.put, u1_, u2_, u3_, i64_w, i32_w]; rfl
      refine pure_ (i := 3) (N := (some 30)) (v := ?_) (a' := ?_) #[Y_,N_,Y_,Y_,N_,N_,N_,N_,N_,N_,N_,N_,N_,N_,N_,N_,N_,N_] rfl rfl (any_of HT_.out (by kernel_rfl)) (fun _ _ _ h => h) (Or.inl ⟨by rfl, ?_⟩) ?_ ?_
      rotate_left; · intro w'; go_simp; with_reducible rfl
      rotate_left; · simp only [Act.put, u1_, u2_, u3_, i64_w, i32_w]; rfl
      refine pure_ (i := 4) (N := (some 31)) (v := ?_) (a' := ?_) #[Y_,N_,Y_,Y_,Y_,N_,N_,N_,N_,N_,N_,N_,N_,N_,N_,N_,N_,N_] rfl rfl (any_of HT_.out (by kernel_rfl)) (fun _ _ _ h => h) (Or.inl ⟨by rfl, ?_⟩) ?_ ?_
      rotate_left; · intro w'; go_simp; with_reducible rfl
      rotate_left; · simp only [Act.put, u1_, u2_, u3_, i64_w, i32_w]; rfl
      refine pure_ (i := 9) (N := (some 36)) (v := ?_) (a' := ?_) #[Y_,N_,Y_,Y_,Y_,N_,N_,N_,N_,Y_,N_,N_,N_,N_,N_,N_,N_,N_] rfl rfl (any_of HT_.out (by kernel_rfl)) (fun _ _ _ h => h) (Or.inl ⟨by rfl, ?_⟩) ?_ ?_
      rotate_left; · intro w'; go_simp; with_reducible rfl
      rotate_left; · simp only [Act.put, u1_, u2_, u3_, i64_w, i32_w]; rfl
      refine pure_ (i := 10) (N := (some 37)) (v := ?_) (a' := ?_) #[Y_,N_,Y_,Y_,Y_,N_,N_,N_,N_,Y_,Y_,N_,N_,N_,N_,N_,N_,N_] rfl rfl (any_of HT_.out (by kernel_rfl)) (fun _ _ _ h => h) (Or.inl ⟨by rfl, ?_⟩) ?_ ?_
      rotate_left; · intro w'; go_simp; with_reducible rfl
      rotate_left; · simp only [Act.put, u1_, u2_, u3_, i64_w, i32_w]; rfl
      refine pure_ (i := 11) (N := (some 38)) (v := ?_) (a' := ?_) #[Y_,N_,Y_,Y_,Y_,N_,N_,N_,N_,Y_,Y_,Y_,N_,N_,N_,N_,N_,N_] rfl rfl (any_of HT_.out (by kernel_rfl)) (fun _ _ _ h => h) (Or.inl ⟨by rfl, ?_⟩) ?_ ?_
      rotate_left; · intro w'; go_simp; with_reducible rfl
      rotate_left; · simp only [Act.put, u1_, u2_, u3_, i64_w, i32_w]; rfl
      refine pure_ (i := 12) (N := (some 39)) (v := ?_) (a' := ?_) #[Y_,N_,Y_,Y_,Y_,N_,N_,N_,N_,Y_,Y_,Y_,Y_,N_,N_,N_,N_,N_] rfl rfl (any_of HT_.out (by kernel_rfl)) (fun _ _ _ h => h) (Or.inl ⟨by rfl, ?_⟩) ?_ ?_
      rotate_left; · intro w'; go_simp; with_reducible rfl
      rotate_left; · simp only [Act.put, u1_, u2_, u3_, i64_w, i32_w]; rfl
      refine take_ (i := 13) (N := (some 40)) (v := ?_) (a' := ?_) #[Y_,N_,Y_,Y_,Y_,N_,N_,N_,N_,Y_,Y_,Y_,Y_,Y_,N_,N_,N_,N_] rfl rfl (take_ofW HT_.out HW_.out (by kernel_rfl)) (fun _ _ _ h => h) (Or.inl ⟨by rfl, ?_⟩) hHeld ?_ ?_
      rotate_left; · rintro w' s0; go_simp; with_reducible rfl
      rotate_left; · simp only [Act.put, u1_, u2_, u3_, i64_w, i32_w]; rfl
      have HRow := Aside0.mk (Row.below HE.out.row (below_drew (Below.refl _ _)))
      have HFs := Aside0.mk (Kd.R_drew HE.out.fs)
      have HPa := Aside0.mk (Kd.F_drew HE.out.parts)
      have HBx := Aside0.mk (Bl.below HE.out.box (below_drew (Below.refl _ _)))
      have HBd := Aside0.mk (below_drew HE.out.below)
      clear hHeld hx
      generalize wr.drew = wd at HRow HFs HPa HBx HBd ⊢
      refine chainsP_ HT_.out [[1, 5, 6, 7, 8], [14], []] [15, 16, 17] [(28, 1), (32, 5), (33, 6), (34, 7), (35, 8), (41, 14)] #[Y_,Y_,Y_,Y_,Y_,Y_,Y_,Y_,Y_,Y_,Y_,Y_,Y_,Y_,Y_,N_,N_,N_] (by kernel_rfl) (by kernel_rfl) (fun w' => Below w.heap.size w w') (Ev8A w w.heap.size acc u5 (ys.take n) accK u6 (some ap) ps kk) (fun w' h => (h.cell HAL.out).trans HALC.out) ρ HBd.out ?_ Ev8A.dep Ev8A.still ?_ ?_
      · intro q hq u
        match q, hq with
        | 0, _ => exact HRow.out
        | 1, _ => exact HFs.out
        | 2, _ => exact ⟨HPa.out, HBx.out, HE.out.old⟩
      · intro q p hq hp u ρ w' hb hstill hA
        have hsz := hb.size
        match q, hq, p, hp, hA with
        | 0, _, 0, _, hA =>
          refine cstep_ (i := 1) (s := 28) (a1 := ?_) rfl rfl rfl rfl ?_ ?_
          rotate_left; · simp only [puts, Act.put, u1_, u2_, u3_]; rfl
          intro K hK
          refine value_ (v := .slice (some ⟨w'.heap.size, 0, none⟩) 0 0) (w1 := w'.alloc (.cells #[] 31)) (by rfl) rfl (by go_simp) ?_
          exact hK.out _ (paint ρ w'.heap.size 1) _ (below_alloc hb _) (MvC.alloc _) ⟨Row.allocd hA _ _, R_none _ _ _ _ hsz _ _⟩
        | 0, _, 1, _, hA =>
          obtain ⟨hrow, hu⟩ := hA
          refine cstep_ (i := 5) (s := 32) (a1 := ?_) rfl rfl rfl rfl ?_ ?_
          rotate_left; · simp only [puts, Act.put, u1_, u2_, u3_]; rfl
          intro K hK
          refine Kd.R_append_rows_step kP (w0 := w) w.heap.size (by rfl) (.tmp 28) (.tmp 31) 24 31 (.agg #[.int .i64 0, .int .i64 0]) 16 rfl Tryz.underlying24 info31 rfl (by decide) (by omega) (u 1) [] (ys.take n) (some al) n c (fun k => paint ρ w'.heap.size 1 k = 1) (fun _ => False) (by rfl) (by rfl) (R_tint hu (fun k hk h => (if_pos hk).trans h)) (Kd.C_below HTK.out hb) (fun x cs h => by rw [k31_open h]; exact k31_mkM _ _ _ x) (fun _ hk => hk.elim) (fun k hk => if_neg (by omega)) hb hsz (by have := HN60.out; simp; omega) ?_
          intro v1 w1 hR hb1 hg hat
          exact hK.out v1 (paint ρ w'.heap.size 1) w1 hb1 (MvC.grown hg (fun k hk => by rw [hu.1 k hk])) ⟨hrow.grown hg (fun k hk => by have h1 := hu.1 k hk; rw [h1]; exact ⟨by omega, by unfold Y16; omega⟩) 1, by rw [List.nil_append] at hR; exact hR⟩
        | 0, _, 2, _, hA =>
          obtain ⟨hrow, hu⟩ := hA
          refine cstep_ (i := 6) (s := 33) (a1 := ?_) rfl rfl rfl rfl ?_ ?_
          rotate_left; · simp only [puts, Act.put, u1_, u2_, u3_]; rfl
          intro K hK
          obtain ⟨A5, c5, h5⟩ := Kd.R_slice hu
          rw [h5] at hK ⊢
          refine value_ (v := .agg #[.bool true, .bool false, .slice A5 (ys.take n).length c5, .slice none 0 0, .slice none 0 0]) (w1 := w') (by rfl) rfl (by go_simp) ?_
          exact hK.out _ ρ _ hb (MvC.refl _ _ _) ⟨hrow, hu, by rw [show updv u 6 _ 5 = u 5 from rfl, h5]; rfl⟩
        | 0, _, 3, _, hA =>
          obtain ⟨hrow, hu, h6⟩ := hA
          obtain ⟨A5, c5, h5⟩ := Kd.R_slice hu
          refine cstep_ (i := 7) (s := 34) (a1 := ?_) rfl rfl rfl rfl ?_ ?_
          rotate_left; · simp only [puts, Act.put, u1_, u2_, u3_]; rfl
          intro K hK
          rw [h6, h5] at hK ⊢
          refine value_ (v := .slice (some ⟨w'.heap.size, 0, none⟩) 1 1) (w1 := w'.alloc (.cells #[.bool true, .bool false, .slice A5 (ys.take n).length c5, .slice none 0 0, .slice none 0 0] 42)) (by rfl) rfl (by go_simp) ?_
          exact hK.out _ (paint ρ w'.heap.size 2) _ (below_alloc hb _) (MvC.alloc _) ⟨hrow.allocd _ _, R_col hu (col_alloc _ _), _, rfl, by rw [show updv u 7 _ 5 = u 5 from rfl, h5]; exact Bl.new ρ 2 w' _⟩
        | 0, _, 4, _, hA =>
          obtain ⟨hrow, hu, g, h7, hbl⟩ := hA
          obtain ⟨A5, c5, h5⟩ := Kd.R_slice hu
          rw [h5] at hbl hu
          have hlt := blk_lt hbl.1
          have hfk : kSh.FK w' (fun k => ρ k = 1 ∧ k < w'.heap.size) (⟨true, false, ys.take n, [], []⟩ : Sh) [.bool true, .bool false, .slice A5 (ys.take n).length c5, .slice none 0 0, .slice none 0 0] := k42_mkF w' _ ⟨true, false, ys.take n, [], []⟩ (Kd.R_reads' hu).2.1 (Kd.F_bound (Kd.R_F hu)) (Nat.le_refl _) (Kd.F_nil _ _ _) (Nat.le_refl _) (Kd.F_nil _ _ _)
          refine cstep_ (i := 8) (s := 35) (a1 := ?_) rfl rfl rfl rfl ?_ ?_
          rotate_left; · simp only [puts, Act.put, u1_, u2_, u3_]; rfl
          intro K hK
          rw [h7] at hK ⊢
          refine Kd.N_append_rows_step kSh (w0 := w) w.heap.size (by rfl) (.tmp 27) (.tmp 34) 40 42 (.agg #[(.bool false), (.bool false), (.slice none 0 0), (.slice none 0 0), (.slice none 0 0)]) 80 rfl Tryz.underlying40 info42 rfl (by decide) (by omega) u5 acc [⟨true, false, ys.take n, [], []⟩] (some ⟨g, 0, none⟩) 1 1 (fun k => paint ρ w'.heap.size 0 k = 0 ∨ (paint ρ w'.heap.size 0 k = 16 ∨ paint ρ w'.heap.size 0 k = 1 ∨ paint ρ w'.heap.size 0 k = 2)) (fun k => k = g ∨ (ρ k = 1 ∧ k < w'.heap.size)) (by rfl) (by rfl)
            (Kd.N_mono (Kd.N_bound hrow.row) (fun k hk => by rw [show paint ρ w'.heap.size 0 k = ρ k from if_pos hk.2]; exact hk.1.imp id (fun h => .inl h))) (one_F hbl.1 hfk)
            (fun k hk => by
              rcases hk with rfl | ⟨h1, h2⟩
              · rw [show paint ρ w'.heap.size 0 k = ρ k from if_pos hlt, hbl.2]
                exact ⟨.inr (.inr (.inr rfl)), fun e => by have := hrow.own k e.symm; have := hbl.2; omega⟩
              · rw [show paint ρ w'.heap.size 0 k = ρ k from if_pos h2, h1]
                exact ⟨.inr (.inr (.inl rfl)), fun e => by have := hrow.own k e.symm; omega⟩)
            (fun k hk => .inl (if_neg (by omega))) hb hsz (by have := HA60.out; omega) ?_
          intro v1 w1 hN hb1 hg hat
          exact hK.out v1 (paint ρ w'.heap.size 0) w1 hb1 (MvC.grown hg (fun k hk => by rw [hrow.own k hk])) ⟨hN, fun k hk => by
            rcases hat with hat | ⟨b1, hb2, hle⟩
            · have h1 : u5.ownBlock = some k := hat ▸ hk
              exact (if_pos (Kd.N_lt hrow.row k h1)).trans (hrow.own k h1)
            · have h1 : some b1 = some k := hb2.symm.trans hk
              injection h1 with h1
              exact if_neg (by omega)⟩
        | 0, _, p + 5, hp, _ => exact absurd hp (by simp)
        | 1, _, 0, _, hA =>
          refine cstep_ (i := 14) (s := 41) (a1 := ?_) rfl rfl rfl rfl ?_ ?_
          rotate_left; · simp only [puts, Act.put, u1_, u2_, u3_]; rfl
          intro K hK
          refine value_ (v := .slice (some ⟨w'.heap.size, 0, none⟩) 1 1) (w1 := w'.alloc (.cells #[.int .i64 kk] 2)) (by rfl) rfl (by go_simp) ?_
          exact hK.out _ (paint ρ w'.heap.size 9) _ (below_alloc hb _) (MvC.alloc _) ⟨R_col hA (col_alloc _ _), _, rfl, Bl.new ρ 9 w' _⟩
        | 1, _, p + 1, hp, _ => exact absurd hp (by simp)
        | 2, _, p, hp, _ => exact absurd hp (by simp)
        | q + 3, hq, _, _, _ => exact absurd hq (by simp)
      · intro u ρ w' hb hA
        have h0 := hA 0 (by simp)
        obtain ⟨hfs, g, h14, hbl⟩ := hA 1 (by simp)
        obtain ⟨hpa, hbx, hold⟩ := hA 2 (by simp)
        clear hA
        have hsz := hb.size
        refine norm_ (a' := ?_) ?_ ?_
        rotate_left; · simp only [puts, Act.put, u1_, u2_, u3_]; rfl
        rw [h14]
        refine one_ (i := 15) (N := (some 42)) #[Y_,Y_,Y_,Y_,Y_,Y_,Y_,Y_,Y_,Y_,Y_,Y_,Y_,Y_,Y_,Y_,N_,N_] rfl rfl (one_of HT_.out (by kernel_rfl)) (by decide) (fun K_ hK => ?_)
        refine Kd.R_append_rows_step (Kd.int .i64) (w0 := w) w.heap.size (by rfl) (.tmp 36) (.tmp 41) 28 2 (.int .i64 0) 8 rfl Tryz.underlying28 info2 rfl (by decide) (by omega) u6 accK [kk] (some ⟨g, 0, none⟩) 1 1 (fun k => paint ρ w'.heap.size 8 k = 8) (fun _ => False) (by rfl) (by rfl) (R_tint hfs (fun k hk h => (if_pos hk).trans h)) (Kd.F_now (one_F (d := Kd.int .i64) (ok := fun _ => False) (cs := [.int .i64 kk]) hbl.1 (fun W _ => rfl))) (fun x cs h => h) (fun _ hk => hk.elim) (fun k hk => if_neg (by omega)) hb hsz (by have := HE.out.lenK; have := HA60.out; omega) ?_
        intro v1 w1 hR hb1 hg hat
        refine hK.out _ _ ((hb1.cell HAL.out).trans HALC.out) (fun hHeld => ?_)
        clear hK K_
        refine norm_ (a' := ?_) ?_ ?_
        rotate_left; · show Act.put _ (some 42) _ = _; simp only [Act.put, u1_, u2_, u3_, i64_w, i32_w]; rfl
        refine pure_ (i := 16) (N := (some 5)) (v := ?_) (a' := ?_) #[Y_,Y_,Y_,Y_,Y_,Y_,Y_,Y_,Y_,Y_,Y_,Y_,Y_,Y_,Y_,Y_,Y_,N_] rfl rfl (any_of HT_.out (by kernel_rfl)) (fun _ _ _ h => h) (Or.inl ⟨by rfl, ?_⟩) ?_ ?_
        rotate_left; · intro w'; go_simp; with_reducible rfl
        rotate_left; · simp only [Act.put, u1_, u2_, u3_, i64_w, i32_w]; rfl
        refine pure_ (i := 17) (N := (some 6)) (v := ?_) (a' := ?_) #[Y_,Y_,Y_,Y_,Y_,Y_,Y_,Y_,Y_,Y_,Y_,Y_,Y_,Y_,Y_,Y_,Y_,Y_] rfl rfl (any_of HT_.out (by kernel_rfl)) (fun _ _ _ h => h) (Or.inl ⟨by rfl, ?_⟩) ?_ ?_
        rotate_left; · intro w'; go_simp; with_reducible rfl
        rotate_left; · simp only [Act.put, u1_, u2_, u3_, i64_w, i32_w]; rfl
        refine done_ (done_of HT_.out (by kernel_rfl)) ?_
        have hx0 : Row (paint ρ w'.heap.size 8) 0 (fun c => c = 16 ∨ c = 1 ∨ c = 2) w1 w.heap.size (u 8) (acc ++ [⟨true, false, ys.take n, [], []⟩]) := Row.grown h0 hg (fun k hk => by rw [hfs.1 k hk]; omega) 8
        have HROW := Aside0.mk (hx0.tint (ρ1 := fade (paint ρ w'.heap.size 8)) (y := 0) (Y1 := Y16) (fun k _ h => fade_keep h (by omega)) (fun k _ h => fade_16 h))
        have HFSN := Aside0.mk (R_tint hR (ρ1 := fade (paint ρ w'.heap.size 8)) (y := 8) (fun k _ h => fade_keep h (by omega)))
        have HPAN := Aside0.mk (F_tint (F_col hpa (col_grown hg 8 (fun k hk => by rw [hfs.1 k hk]; omega))) (ρ1 := fade (paint ρ w'.heap.size 8)) (y := 17) (fun k _ h => fade_keep h (by omega)))
        have HBXN := Aside0.mk (Bl.tint (Bl.col hbx (col_grown hg 8 (fun k hk => by rw [hfs.1 k hk]; omega))) (ρ1 := fade (paint ρ w'.heap.size 8)) (y := 18) (fun k _ h => fade_keep h (by omega)))
        have HBN := Aside0.mk hb1
        have HOLD := Aside0.mk (fade_old (paint_old (n := w'.heap.size) (x := 8) hold hsz))
        generalize fade (paint ρ w'.heap.size 8) = ρn at HROW HFSN HPAN HBXN HOLD
        have hcf := cut_from 24 31 .i64 Tryz.underlying24 hiP 2 rfl (some al) ys.length c (n : Int) hn0 hny
        rw [Int.toNat_natCast] at hcf
        clear h0 hfs hbl hpa hbx hold hb hsz hR hb1 hg hat hx0 hHeld h14 HT_ HW_
        generalize u 8 = v5n at HROW ⊢
        go_wp2_with fail
        go_round
        case rel =>
          refine ⟨ρn, (if c = n then some al else some (al.add (n * 2))), c - n, ys.drop n, ns, acc ++ [⟨true, false, ys.take n, [], []⟩], accK ++ [kk], ⟨?_⟩⟩
          have hE := HE.out
          have hcnt := HCNT.out
          exact {
            e0 := by rw [List.length_drop]
            e23 := by rw [List.length_append, List.length_singleton, wrap_succ _ (by have := HA60.out; omega)]
            cap := by have := hE.cap; rw [List.length_drop]; omega
            lC := by have h := Kd.C_drop hE.lC (m := n) (by have := HSUM.out; omega) hE.cap; exact h
            l60 := by have := hE.l60; rw [List.length_drop]; omega
            sum := by have := HSUM.out; rw [List.length_drop]; omega
            pos := fun m hm => hE.pos m (List.mem_cons_of_mem _ hm)
            cnt := by rw [List.length_append, List.length_singleton]; omega
            p60 := hE.p60
            told := fun j => by
              have h := hE.told (j + 1)
              rw [List.getD_cons_succ] at h
              rw [List.length_append, List.length_singleton, show acc.length + 1 + j = acc.length + (j + 1) by omega]
              exact h
            eR := by have h := hE.eR; rw [leafRow] at h; rw [← h, List.append_assoc]; rfl
            eK := by have h := hE.eK; rw [leafKey, HKK.out] at h; rw [← h, List.append_assoc]; rfl
            lenK := by rw [List.length_append, List.length_append, hE.lenK]; rfl
            below := HBN.out
            row := HROW.out
            fs := HFSN.out
            parts := HPAN.out
            box := HBXN.out
            old := HOLD.out }
        case measure =>
          exact meas_succ (by have := HCNT.out; omega) (by have := HA60.out; omega)
set_option maxHeartbeats 4000000 in
set_option maxRecDepth 100000 in
theorem even_empty (c : Nat) (A : Option Addr) (b : Nat) (w : World) :
    Calls Tryz.prog 35 #[.slice A 0 c, .int .i64 b] w fun e w1 => ∃ cs, e = .returned (.agg cs.toArray) ∧ kSh.FK w1 (fun k => w.heap.size ≤ k) (evenT [] b) cs ∧ Below w.heap.size w w1 := by
  have HX0 := Aside0.mk (blk_new w (.cells #[.bool false, .bool false, .slice none 0 0, .slice none 0 0, .slice none 0 0] 42))
  have HB0 := Aside0.mk (below_alloc (Below.refl w.heap.size w) (.cells #[.bool false, .bool false, .slice none 0 0, .slice none 0 0, .slice none 0 0] 42))
  go_enter Tryz.func35, Tryz.ntmps35
  go_upto_region 1 with fail
  generalize w.alloc (.cells #[.bool false, .bool false, .slice none 0 0, .slice none 0 0, .slice none 0 0] 42) = wr at HX0 HB0 ⊢
  have hbx := HX0.out
  have y0 := (blk_cell hbx 0).trans (rfl : _ = some (Value.bool false))
  have y1 := (blk_cell hbx 1).trans (rfl : _ = some (Value.bool false))
  have y2 := (blk_cell hbx 2).trans (rfl : _ = some (Value.slice none 0 0))
  have y3 := (blk_cell hbx 3).trans (rfl : _ = some (Value.slice none 0 0))
  have y4 := (blk_cell hbx 4).trans (rfl : _ = some (Value.slice none 0 0))
  have z0 := blk_frozen hbx 0
  have z1 := blk_frozen hbx 1
  have z2 := blk_frozen hbx 2
  have z3 := blk_frozen hbx 3
  have z4 := blk_frozen hbx 4
  clear hbx
  go_wp2_with fail
  have HB6 : Aside0 ((((((wr.setCell ⟨w.heap.size, 0, none⟩ (.bool true)).setCell ⟨w.heap.size, 1, none⟩ (.bool false)).setCell ⟨w.heap.size, 2, none⟩ (.slice none 0 0)).setCell ⟨w.heap.size, 3, none⟩ (.slice none 0 0)).setCell ⟨w.heap.size, 4, none⟩ (.slice none 0 0)).heap[w.heap.size]? = some (.cells #[.bool true, .bool false, .slice none 0 0, .slice none 0 0, .slice none 0 0] 42 (0, 0))) := ⟨blk_set (blk_set (blk_set (blk_set (blk_set HX0.out 0 (.bool true)) 1 (.bool false)) 2 (.slice none 0 0)) 3 (.slice none 0 0)) 4 (.slice none 0 0)⟩
  have HBE : Aside0 (Below w.heap.size w (((((wr.setCell ⟨w.heap.size, 0, none⟩ (.bool true)).setCell ⟨w.heap.size, 1, none⟩ (.bool false)).setCell ⟨w.heap.size, 2, none⟩ (.slice none 0 0)).setCell ⟨w.heap.size, 3, none⟩ (.slice none 0 0)).setCell ⟨w.heap.size, 4, none⟩ (.slice none 0 0))) := ⟨((((HB0.out.setCell (p := ⟨w.heap.size, 0, none⟩) (Nat.le_refl _) _).setCell (p := ⟨w.heap.size, 1, none⟩) (Nat.le_refl _) _).setCell (p := ⟨w.heap.size, 2, none⟩) (Nat.le_refl _) _).setCell (p := ⟨w.heap.size, 3, none⟩) (Nat.le_refl _) _).setCell (p := ⟨w.heap.size, 4, none⟩) (Nat.le_refl _) _⟩
  clear y0 y1 y2 y3 y4 z0 z1 z2 z3 z4
  generalize (((((wr.setCell ⟨w.heap.size, 0, none⟩ (.bool true)).setCell ⟨w.heap.size, 1, none⟩ (.bool false)).setCell ⟨w.heap.size, 2, none⟩ (.slice none 0 0)).setCell ⟨w.heap.size, 3, none⟩ (.slice none 0 0)).setCell ⟨w.heap.size, 4, none⟩ (.slice none 0 0)) = we at HB6 HBE ⊢
  (try simp only [Exit.inBlock, Exit.then])
  refine bodyPost_ret (results_cell_row rfl _ _ w.heap.size 42 _ (0, 0) _ rfl HB6.out Tryz.underlying42 rfl (by kernel_rfl)) rfl ?_
  exact ⟨[.bool true, .bool false, .slice none 0 0, .slice none 0 0, .slice none 0 0], rfl, k42_mkF we _ ⟨true, false, [], [], []⟩ (Nat.le_refl _) (Kd.F_nil _ _ _) (Nat.le_refl _) (Kd.F_nil _ _ _) (Nat.le_refl _) (Kd.F_nil _ _ _), HBE.out⟩
theorem even_any (A : Option Addr) (c : Nat) (xs : List Pr2) (b : Nat) (w : World) (hC : kP.C w A xs.length xs) (hc : xs.length ≤ c) (h60 : xs.length ≤ 60) (hb : 3 ≤ b) (hb8 : b ≤ 8) :
    Calls Tryz.prog 35 #[.slice A xs.length c, .int .i64 b] w fun e w1 => ∃ cs, e = .returned (.agg cs.toArray) ∧ kSh.FK w1 (fun k => w.heap.size ≤ k) (evenT xs b) cs ∧ Below w.heap.size w w1 := by
  cases xs with
  | nil => exact even_empty c A b w
  | cons x xs => exact even_calls A c (x :: xs) b w hC hc h60 (by simp) hb hb8
structure Cleaned (s : Sh) (lo wd : Int) (x : Ws) (w : World) (e : Ending) (w1 : World) : Prop where
  out : ∃ ok p cs, e = .returned (.tuple #[.pointer (some ⟨p, 0, none⟩), .agg cs.toArray, .int .i64 lo, .int .i64 wd]) ∧ IsWorld p x ok w1 ∧ kSh.FK w1 (fun k => w.heap.size ≤ k ∧ ¬ ok k) s cs ∧ (∀ k, ok k → w.heap.size ≤ k) ∧ Below w.heap.size w w1
theorem lo_eq (wd : Nat) (h : wd ≤ 8) : wrap64 (Int.tdiv (wrap64 ((wd : Int) + 1)) 2) = (((wd + 1) / 2 : Nat) : Int) := by
  rw [show wrap64 ((wd : Int) + 1) = ((wd + 1 : Nat) : Int) from by unfold wrap64; omega]
  rw [show Int.tdiv ((wd + 1 : Nat) : Int) 2 = (((wd + 1) / 2 : Nat) : Int) from rfl]
  unfold wrap64
  omega
theorem IsWorld.step {p : Nat} {x : Ws} {ok : Nat → Prop} {w w1 : World} (h : IsWorld p x ok w) (hs : w.heap.size ≤ w1.heap.size) (hm : ∀ k, ok k → k < w.heap.size → w1.heap[k]? = w.heap[k]?) : IsWorld p x ok w1 := by
  obtain ⟨a, b, c, d, e, f, h⟩ := h
  exact ⟨a, b, c, d, e, f, h.step hs hm⟩
def TClean3 : Bool × List (List Nat × List Nat) := (true, [([], []), ([0], [0]), ([1], [1]), ([], []), ([], []), ([], []), ([], []), ([], []), ([2, 3, 4, 5, 6, 7], [2, 3, 4, 5, 6, 7]), ([], []), ([], []), ([10], [10]), ([11], [11]), ([], []), ([8, 8, 0, 1, 2, 3, 4, 5, 6, 7, 8], [8]), ([9, 14, 0, 1, 2, 3, 4, 5, 6, 7, 8, 9, 14], [9]), ([12, 15, 0, 1, 2, 3, 4, 5, 6, 7, 8, 9, 10, 11, 12, 14, 15], [12]), ([13, 16, 0, 1, 2, 3, 4, 5, 6, 7, 8, 9, 10, 11, 12, 13, 14, 15, 16], [13])])
def BClean3 : List Nat := [0, 1, 3, 0, 0, 0, 0, 0, 255, 0, 0, 1024, 3072, 0, 511, 17407, 57343, 131071]
theorem tabClean3 : rtab .any (opsOf Tryz.f13 3) = TClean3 := by kernel_rfl
theorem bitsClean3 : waitsOk TClean3.2 BClean3 = true := by kernel_rfl
set_option maxHeartbeats 4000000 in
set_option maxRecDepth 100000 in
theorem clean_calls (kf k : Nat) (A : Option Addr) (c : Nat) (keys : List Int) (ys : List Pr2) (b0 : Int) (wd threads : Nat) (room records m nodes : Int) (x0 x : Ws) (s : Sh) (w : World)
    (hC : (Kd.int .i64).C w A keys.length keys) (hc : keys.length ≤ c) (hR : boscagelaw02_Rising.f kf keys = some ys) (hy : ys.length ≤ 60) (hwd : boscagelaw11_Wide.f b0 = some (wd : Int)) (hb3 : 3 ≤ wd) (hb8 : wd ≤ 8) (hs : evenT ys wd = s)
    (hm : boscagelaw11_Shape_Many.f k s.f0 s.f1 s.f2 s.f3 s.f4 = some m) (hno : wrap64 (wrap64 (2 + m) + room) = nodes)
    (ht : 1 ≤ threads) (ht1 : threads ≤ 64) (hn : 2 ≤ nodes) (hn1 : nodes ≤ 65536) (hr : 0 ≤ records) (hr1 : records ≤ 65536) (hx : ws0 (((wd + 1) / 2 : Nat) : Int) wd threads nodes records = some x0) (hp : plantT s x0 = some x) :
    Calls Tryz.prog 13 #[.slice A keys.length c, .int .u8 b0, .int .i64 (threads : Int), .int .i64 room, .int .i64 records] w (Cleaned s (((wd + 1) / 2 : Nat) : Int) wd x w) := by
  have HCK := Aside0.mk (And.intro hC hc)
  have HR := Aside0.mk (And.intro hR hy)
  have HWD := Aside0.mk hwd
  have HB := Aside0.mk (And.intro hb3 hb8)
  have HS := Aside0.mk hs
  have HM := Aside0.mk hm
  have HNO := Aside0.mk hno
  have HT := Aside0.mk (And.intro ht ht1)
  have HN := Aside0.mk (And.intro hn (And.intro hn1 (And.intro hr hr1)))
  have HX := Aside0.mk hx
  have HP := Aside0.mk hp
  have HLO := Aside0.mk (lo_eq wd hb8)
  have X1 := Aside0.mk (Mine.new (ok := fun _ => False) (w := w) (fun k hk => hk.elim) (.cells #[.bool false, .bool false, .slice none 0 0, .slice none 0 0, .slice none 0 0] 42))
  have B1 := Aside0.mk (below_alloc (Below.refl w.heap.size w) (.cells #[.bool false, .bool false, .slice none 0 0, .slice none 0 0, .slice none 0 0] 42))
  clear hC hc hR hy hwd hb3 hb8 hs hm hno ht ht1 hn hn1 hr hr1 hx hp
  go_enter Tryz.func13, Tryz.ntmps13
  go_upto_region 1 with fail
  generalize w.alloc (.cells #[.bool false, .bool false, .slice none 0 0, .slice none 0 0, .slice none 0 0] 42) = w1 at X1 B1 ⊢
  generalize h11 : w.heap.size = b11 at X1 ⊢
  have E11 := Aside0.mk h11
  clear h11
  go_upto_region 3 with (first
    | (go_at_call 34; refine (boscagelaw11_Wide.calls b0 _ _ HWD.out).mono ?_; rintro e w2 ⟨rfl, hd⟩; have B2 := Aside0.mk (below_then B1.out B1.out.size hd.below); have X2 := Aside0.mk (X1.out.moves (Moves.of_below _ hd.below)); clear hd)
    | (go_at_call 36; refine (boscagelaw02_Rising.calls kf A c keys ys _ (Kd.C_below HCK.out.1 B2.out) HCK.out.2 HR.out.1).mono ?_; rintro e w3 ⟨v0, rfl, hR, hb⟩; obtain ⟨Ay, cy, rfl⟩ := Kd.R_slice hR; have HY := Aside0.mk (Kd.R_reads' hR).2; have B3 := Aside0.mk (below_then B2.out B2.out.size hb); have X3 := Aside0.mk (X2.out.moves (Moves.of_below _ hb)); clear hR hb)
    | (go_at_call 35; refine (even_any Ay cy ys wd _ HY.out.2 HY.out.1 HR.out.2 HB.out.1 HB.out.2).mono ?_; rw [HS.out]; rintro e w4 ⟨cs, rfl, hfk, hb⟩; obtain ⟨A2, c2, A3, c3, A4, c4, rfl, _⟩ := k42_openF hfk; have F4 := Aside0.mk (Kd.FK_mono hfk (fun k hk => Nat.lt_of_lt_of_le X3.out.lt hk : ∀ k, w3.heap.size ≤ k → b11 < k)); have B4 := Aside0.mk (below_then B3.out B3.out.size hb); have X4 := Aside0.mk (X3.out.moves (Moves.of_below _ hb)); clear hfk hb))
  have Y5 := Aside0.mk (Mine.new (ok := fun _ => False) (w := w4) (fun k hk => hk.elim) (.cells #[.bool s.f0, .bool s.f1, .slice A2 s.f2.length c2, .slice A3 s.f3.length c3, .slice A4 s.f4.length c4] 42))
  have B5 := Aside0.mk (below_then B4.out B4.out.size (below_alloc (Below.refl w4.heap.size w4) (.cells #[.bool s.f0, .bool s.f1, .slice A2 s.f2.length c2, .slice A3 s.f3.length c3, .slice A4 s.f4.length c4] 42)))
  have X5 := Aside0.mk (X4.out.alloc (.cells #[.bool s.f0, .bool s.f1, .slice A2 s.f2.length c2, .slice A3 s.f3.length c3, .slice A4 s.f4.length c4] 42))
  have F5 := Aside0.mk (Kd.FK_mono (FK_below F4.out (Nat.le_refl _) (below_alloc (Below.refl w4.heap.size w4) (.cells #[.bool s.f0, .bool s.f1, .slice A2 s.f2.length c2, .slice A3 s.f3.length c3, .slice A4 s.f4.length c4] 42))) (fun k hk => hk.1))
  clear B4 X4 F4
  generalize w4.alloc (.cells #[.bool s.f0, .bool s.f1, .slice A2 s.f2.length c2, .slice A3 s.f3.length c3, .slice A4 s.f4.length c4] 42) = w5 at Y5 B5 X5 F5 ⊢
  generalize w4.heap.size = b15 at Y5 ⊢
  have HC15 := Aside0.mk (show w5.cell? ⟨b15, 0, none⟩ = some (.bool s.f0) ∧ w5.cell? ⟨b15, 1, none⟩ = some (.bool s.f1) ∧ w5.cell? ⟨b15, 2, none⟩ = some (.slice A2 s.f2.length c2) ∧ w5.cell? ⟨b15, 3, none⟩ = some (.slice A3 s.f3.length c3) ∧ w5.cell? ⟨b15, 4, none⟩ = some (.slice A4 s.f4.length c4) from ⟨(blk_cell (Y5.out.1) 0).trans rfl, (blk_cell (Y5.out.1) 1).trans rfl, (blk_cell (Y5.out.1) 2).trans rfl, (blk_cell (Y5.out.1) 3).trans rfl, (blk_cell (Y5.out.1) 4).trans rfl⟩)
  refine start_ (n := 18) (S := fun w' => w'.cell? ⟨b15, 0, none⟩ = some (.bool s.f0) ∧ w'.cell? ⟨b15, 1, none⟩ = some (.bool s.f1) ∧ w'.cell? ⟨b15, 2, none⟩ = some (.slice A2 s.f2.length c2) ∧ w'.cell? ⟨b15, 3, none⟩ = some (.slice A3 s.f3.length c3) ∧ w'.cell? ⟨b15, 4, none⟩ = some (.slice A4 s.f4.length c4)) (ds := [15]) #[N_,N_,N_,N_,N_,N_,N_,N_,N_,N_,N_,N_,N_,N_,N_,N_,N_,N_] (by kernel_rfl) rfl rfl HC15.out (fun hHeld => ?_); refine with_tabW tabClean3 bitsClean3 (fun HT_ HW_ => ?_)
  have B6 := Aside0.mk (below_then B5.out B5.out.size (below_drew (Below.refl _ _)))
  have X6 := Aside0.mk (X5.out.moves (Moves.drew (Moves.refl _ _)))
  have Y6 := Aside0.mk (Y5.out.moves (Moves.drew (Moves.refl _ _)))
  have F6 := Aside0.mk (Kd.FK_step (W1 := w5.drew) F5.out (fun _ _ _ => rfl))
  have G6 : Aside0 (b11 < w5.drew.heap.size) := ⟨X6.out.lt⟩
  clear HC15 B5 X5 Y5 F5
  generalize w5.drew = w6 at B6 X6 Y6 F6 G6 hHeld ⊢
  refine pure_ (i := 0) (N := (some 22)) (v := ?_) (a' := ?_) #[Y_,N_,N_,N_,N_,N_,N_,N_,N_,N_,N_,N_,N_,N_,N_,N_,N_,N_] rfl rfl (any_of HT_.out (by kernel_rfl)) (fun _ _ _ h => h) (Or.inl ⟨by rfl, ?_⟩) ?_ ?_
  rotate_left; · intro w'; go_simp; with_reducible rfl
  rotate_left; · simp only [Act.put, u1_, u2_, u3_, i64_w, i32_w]; rfl
  refine pure_ (i := 1) (N := (some 23)) (v := ?_) (a' := ?_) #[Y_,Y_,N_,N_,N_,N_,N_,N_,N_,N_,N_,N_,N_,N_,N_,N_,N_,N_] rfl rfl (any_of HT_.out (by kernel_rfl)) (fun _ _ _ h => h) (Or.inl ⟨by rfl, ?_⟩) ?_ ?_
  rotate_left; · intro w'; go_simp; with_reducible rfl
  rotate_left; · simp only [Act.put, u1_, u2_, u3_, i64_w, i32_w]; rfl
  refine pure_ (i := 2) (N := (some 24)) (v := ?_) (a' := ?_) #[Y_,Y_,Y_,N_,N_,N_,N_,N_,N_,N_,N_,N_,N_,N_,N_,N_,N_,N_] rfl rfl (any_of HT_.out (by kernel_rfl)) (fun _ _ _ h => h) (Or.inl ⟨by rfl, ?_⟩) ?_ ?_
  rotate_left; · intro w'; go_simp; with_reducible rfl
  rotate_left; · simp only [Act.put, u1_, u2_, u3_, i64_w, i32_w]; rfl
  refine pure_ (i := 3) (N := (some 25)) (v := ?_) (a' := ?_) #[Y_,Y_,Y_,Y_,N_,N_,N_,N_,N_,N_,N_,N_,N_,N_,N_,N_,N_,N_] rfl rfl (any_of HT_.out (by kernel_rfl)) (fun _ _ _ h => h) (Or.inl ⟨by rfl, ?_⟩) ?_ ?_
  rotate_left; · intro w'; go_simp; with_reducible rfl
  rotate_left; · simp only [Act.put, u1_, u2_, u3_, i64_w, i32_w]; rfl
  refine pure_ (i := 4) (N := (some 26)) (v := ?_) (a' := ?_) #[Y_,Y_,Y_,Y_,Y_,N_,N_,N_,N_,N_,N_,N_,N_,N_,N_,N_,N_,N_] rfl rfl (any_of HT_.out (by kernel_rfl)) (fun _ _ _ h => h) (Or.inl ⟨by rfl, ?_⟩) ?_ ?_
  rotate_left; · intro w'; go_simp; with_reducible rfl
  rotate_left; · simp only [Act.put, u1_, u2_, u3_, i64_w, i32_w]; rfl
  refine take_ (i := 5) (N := (some 27)) (v := ?_) (a' := ?_) #[Y_,Y_,Y_,Y_,Y_,Y_,N_,N_,N_,N_,N_,N_,N_,N_,N_,N_,N_,N_] rfl rfl (take_ofW HT_.out HW_.out (by kernel_rfl)) (fun _ _ _ h => h) (Or.inl ⟨by rfl, ?_⟩) hHeld ?_ ?_
  rotate_left; · rintro w' ⟨s0, s1, s2, s3, s4⟩; go_simp; with_reducible rfl
  rotate_left; · simp only [Act.put, u1_, u2_, u3_, i64_w, i32_w]; rfl
  refine pure_ (i := 6) (N := (some 28)) (v := ?_) (a' := ?_) #[Y_,Y_,Y_,Y_,Y_,Y_,Y_,N_,N_,N_,N_,N_,N_,N_,N_,N_,N_,N_] rfl rfl (any_of HT_.out (by kernel_rfl)) (fun _ _ _ h => h) (Or.inl ⟨by rfl, ?_⟩) ?_ ?_
  rotate_left; · intro w'; go_simp; with_reducible rfl
  rotate_left; · simp only [Act.put, u1_, u2_, u3_, i64_w, i32_w]; rfl
  refine pure_ (i := 7) (N := (some 29)) (v := ?_) (a' := ?_) #[Y_,Y_,Y_,Y_,Y_,Y_,Y_,Y_,N_,N_,N_,N_,N_,N_,N_,N_,N_,N_] rfl rfl (any_of HT_.out (by kernel_rfl)) (fun _ _ _ h => h) (Or.inl ⟨by rfl, ?_⟩) ?_ ?_
  rotate_left; · intro w'; go_simp; with_reducible rfl
  rotate_left; · simp only [Act.put, u1_, u2_, u3_, i64_w, i32_w]; rfl
  refine take_ (i := 9) (N := (some 31)) (v := ?_) (a' := ?_) #[Y_,Y_,Y_,Y_,Y_,Y_,Y_,Y_,N_,Y_,N_,N_,N_,N_,N_,N_,N_,N_] rfl rfl (take_ofW HT_.out HW_.out (by kernel_rfl)) (fun _ _ _ h => h) (Or.inl ⟨by rfl, ?_⟩) hHeld ?_ ?_
  rotate_left; · rintro w' ⟨s0, s1, s2, s3, s4⟩; go_simp; with_reducible rfl
  rotate_left; · simp only [Act.put, u1_, u2_, u3_, i64_w, i32_w]; rfl
  refine pure_ (i := 10) (N := (some 32)) (v := ?_) (a' := ?_) #[Y_,Y_,Y_,Y_,Y_,Y_,Y_,Y_,N_,Y_,Y_,N_,N_,N_,N_,N_,N_,N_] rfl rfl (any_of HT_.out (by kernel_rfl)) (fun _ _ _ h => h) (Or.inl ⟨by rfl, ?_⟩) ?_ ?_
  rotate_left; · intro w'; go_simp; with_reducible rfl
  rotate_left; · simp only [Act.put, u1_, u2_, u3_, i64_w, i32_w]; rfl
  refine pure_ (i := 11) (N := (some 33)) (v := ?_) (a' := ?_) #[Y_,Y_,Y_,Y_,Y_,Y_,Y_,Y_,N_,Y_,Y_,Y_,N_,N_,N_,N_,N_,N_] rfl rfl (any_of HT_.out (by kernel_rfl)) (fun _ _ _ h => h) (Or.inl ⟨by rfl, ?_⟩) ?_ ?_
  rotate_left; · intro w'; go_simp; with_reducible rfl
  rotate_left; · simp only [Act.put, u1_, u2_, u3_, i64_w, i32_w]; rfl
  refine pure_ (i := 12) (N := (some 34)) (v := ?_) (a' := ?_) #[Y_,Y_,Y_,Y_,Y_,Y_,Y_,Y_,N_,Y_,Y_,Y_,Y_,N_,N_,N_,N_,N_] rfl rfl (any_of HT_.out (by kernel_rfl)) (fun _ _ _ h => h) (Or.inl ⟨by rfl, ?_⟩) ?_ ?_
  rotate_left; · intro w'; go_simp; with_reducible rfl
  rotate_left; · simp only [Act.put, u1_, u2_, u3_, i64_w, i32_w]; rfl
  refine pure_ (i := 13) (N := (some 35)) (v := ?_) (a' := ?_) #[Y_,Y_,Y_,Y_,Y_,Y_,Y_,Y_,N_,Y_,Y_,Y_,Y_,Y_,N_,N_,N_,N_] rfl rfl (any_of HT_.out (by kernel_rfl)) (fun _ _ _ h => h) (Or.inl ⟨by rfl, ?_⟩) ?_ ?_
  rotate_left; · intro w'; go_simp; with_reducible rfl
  rotate_left; · simp only [Act.put, u1_, u2_, u3_, i64_w, i32_w]; rfl
  refine one_ (i := 8) (N := (some 30)) #[Y_,Y_,Y_,Y_,Y_,Y_,Y_,Y_,Y_,Y_,Y_,Y_,Y_,Y_,N_,N_,N_,N_] rfl rfl (one_of HT_.out (by kernel_rfl)) (by decide) (fun K_ hK => ?_)
  refine call_ 37 #[.int .i64 (wrap64 (Int.tdiv (wrap64 ((wd : Int) + 1)) 2)), .int .i64 (wd : Int), .int .i64 (threads : Int), .agg #[.bool s.f0, .bool s.f1, .slice A2 s.f2.length c2, .slice A3 s.f3.length c3, .slice A4 s.f4.length c4], .int .i64 room, .int .i64 records] (by rfl) rfl ?hrun8 ?_
  (case hrun8 => first | (go_simp; done) | (go_simp; exact enters Tryz.func37 (by kernel_rfl) rfl _ _))
  rw [HLO.out]
  refine (home_calls k _ _ threads s room records m nodes x0 x w6 _ F6.out HM.out HNO.out (by have := HB.out; omega) (by have := HB.out; omega) (by have := HB.out; omega) (by have := HB.out; omega) HT.out.1 HT.out.2 HN.out.1 HN.out.2.1 HN.out.2.2.1 HN.out.2.2.2 HX.out HP.out).mono ?_
  rintro e w7 hE
  obtain ⟨ok, p, rfl, hW7, hF7, hB7⟩ := hE.out
  have W7 := Aside0.mk hW7
  have N7 : Aside0 (∀ k, ok k → w.heap.size ≤ k ∧ b11 < k) := ⟨fun k hk => ⟨Nat.le_trans B6.out.size (hF7 k hk), Nat.lt_of_lt_of_le G6.out (hF7 k hk)⟩⟩
  have B7 := Aside0.mk (below_then B6.out B6.out.size hB7)
  have X7 := Aside0.mk (X6.out.moves (Moves.of_below _ hB7))
  have Y7 := Aside0.mk (Y6.out.moves (Moves.of_below _ hB7))
  have F7 := Aside0.mk (Kd.FK_mono (FK_below F6.out (Nat.le_refl _) hB7) (fun k hk => (⟨hk.1, fun h => by have := hF7 k h; omega⟩) : ∀ k, b11 < k ∧ k < w6.heap.size → b11 < k ∧ ¬ ok k))
  clear hE hW7 hF7 hB7 B6 X6 Y6 F6 G6
  refine ⟨_, rfl, ?_⟩
  refine hK.out _ _ ⟨(blk_cell (Y7.out.1) 0).trans rfl, (blk_cell (Y7.out.1) 1).trans rfl, (blk_cell (Y7.out.1) 2).trans rfl, (blk_cell (Y7.out.1) 3).trans rfl, (blk_cell (Y7.out.1) 4).trans rfl⟩ (fun hHeld => ?_)
  clear hK K_
  refine norm_ (a' := ?_) ?_ ?_
  rotate_left; · show Act.put _ (some 30) _ = _; simp only [Act.put, u1_, u2_, u3_, i64_w, i32_w]; rfl
  refine pure_ (i := 14) (N := (some 10)) (v := ?_) (a' := ?_) #[Y_,Y_,Y_,Y_,Y_,Y_,Y_,Y_,Y_,Y_,Y_,Y_,Y_,Y_,Y_,N_,N_,N_] rfl rfl (any_of HT_.out (by kernel_rfl)) (fun _ _ _ h => h) (Or.inl ⟨by rfl, ?_⟩) ?_ ?_
  rotate_left; · intro w'; go_simp; with_reducible rfl
  rotate_left; · simp only [Act.put, u1_, u2_, u3_, i64_w, i32_w]; rfl
  refine last_ (i := 15) (N := none) #[Y_,Y_,Y_,Y_,Y_,Y_,Y_,Y_,Y_,Y_,Y_,Y_,Y_,Y_,Y_,Y_,N_,N_] rfl rfl (one_of HT_.out (by kernel_rfl)) (by decide) (fun K_ hK => ?_)
  refine skip_ (w1 := w7.setCells b11 0 [.bool s.f0, .bool s.f1, .slice A2 s.f2.length c2, .slice A3 s.f3.length c3, .slice A4 s.f4.length c4]) (by rfl) rfl ?h15 ?_
  (case h15 => exact exec_store _ [.bool s.f0, .bool s.f1, .slice A2 s.f2.length c2, .slice A3 s.f3.length c3, .slice A4 s.f4.length c4] rfl (by rfl) (by rfl) X7.out.1 rfl (by kernel_rfl) (by simp) (by intro u hu; simp only [List.mem_cons, List.not_mem_nil, or_false] at hu; rcases hu with rfl | rfl | rfl | rfl | rfl <;> rfl))
  refine hK.out _ _ ?_
  clear hK K_
  have W8 := Aside0.mk (W7.out.step (w1 := w7.setCells b11 0 [.bool s.f0, .bool s.f1, .slice A2 s.f2.length c2, .slice A3 s.f3.length c3, .slice A4 s.f4.length c4]) (by rw [(setCells_same b11 _ 0 w7).2.2.2]; exact Nat.le_refl _) (fun k hk _ => setCells_far _ _ k (fun e => by have := (N7.out k hk).2; omega)))
  have F8 := Aside0.mk (Kd.FK_step (W1 := w7.setCells b11 0 [.bool s.f0, .bool s.f1, .slice A2 s.f2.length c2, .slice A3 s.f3.length c3, .slice A4 s.f4.length c4]) F7.out (fun k hk _ => setCells_far _ _ k (fun e => by have := hk.1; omega)))
  have X8 := Aside0.mk (setCells_all (seg := [.bool s.f0, .bool s.f1, .slice A2 s.f2.length c2, .slice A3 s.f3.length c3, .slice A4 s.f4.length c4]) X7.out.1 rfl)
  have B8 := Aside0.mk (Moves.outer (moves_cells (Moves.of_below (fun _ => False) B7.out) (.inr (Nat.le_of_eq E11.out)) 0 [.bool s.f0, .bool s.f1, .slice A2 s.f2.length c2, .slice A3 s.f3.length c3, .slice A4 s.f4.length c4]) (fun _ h => h.elim))
  clear W7 F7 X7 B7 Y7 hHeld
  generalize w7.setCells b11 0 [.bool s.f0, .bool s.f1, .slice A2 s.f2.length c2, .slice A3 s.f3.length c3, .slice A4 s.f4.length c4] = w8 at W8 F8 X8 B8 ⊢
  refine pure_ (i := 16) (N := (some 12)) (v := ?_) (a' := ?_) #[Y_,Y_,Y_,Y_,Y_,Y_,Y_,Y_,Y_,Y_,Y_,Y_,Y_,Y_,Y_,Y_,Y_,N_] rfl rfl (any_of HT_.out (by kernel_rfl)) (fun _ _ _ h => h) (Or.inl ⟨by rfl, ?_⟩) ?_ ?_
  rotate_left; · intro w'; go_simp; with_reducible rfl
  rotate_left; · simp only [Act.put, u1_, u2_, u3_, i64_w, i32_w]; rfl
  refine pure_ (i := 17) (N := (some 13)) (v := ?_) (a' := ?_) #[Y_,Y_,Y_,Y_,Y_,Y_,Y_,Y_,Y_,Y_,Y_,Y_,Y_,Y_,Y_,Y_,Y_,Y_] rfl rfl (any_of HT_.out (by kernel_rfl)) (fun _ _ _ h => h) (Or.inl ⟨by rfl, ?_⟩) ?_ ?_
  rotate_left; · intro w'; go_simp; with_reducible rfl
  rotate_left; · simp only [Act.put, u1_, u2_, u3_, i64_w, i32_w]; rfl
  refine done_ (done_of HT_.out (by kernel_rfl)) ?_
  go_wp2_with fail
  (try simp only [Exit.inBlock, Exit.then])
  refine bodyPost_ret (results_list (rs := [.tmp 10, .cell 11 42, .tmp 12, .tmp 13]) rfl (by simp) (.tmp (.cell b11 42 _ (0, 0) _ rfl X8.out Tryz.underlying42 rfl (by kernel_rfl) (.tmp (.tmp .nil))))) rfl ?_
  exact ⟨⟨ok, p, [.bool s.f0, .bool s.f1, .slice A2 s.f2.length c2, .slice A3 s.f3.length c3, .slice A4 s.f4.length c4], rfl, W8.out, Kd.FK_mono F8.out (fun k hk => ⟨by have := E11.out; have := hk.1; omega, hk.2⟩), fun k hk => (N7.out k hk).1, B8.out⟩⟩
end Go.Proofs.YthlmgbdknjilpaaGreat.Tower
namespace Go.Proofs.YthlmgbdknjilpaaGreat.Tower
open Go Go.RowKit Go.Proofs.YthlmgbdknjilpaaGreatW.PrintWords Go.Proofs.YthlmgbdknjilpaaGreatW.PrintLast Go.Proofs.YthlmgbdknjilpaaGreatW.PrintMore Go.Proofs.YthlmgbdknjilpaaGreat.Own Go.Proofs.YthlmgbdknjilpaaGreat.PAskKinds
set_option linter.unusedVariables false
set_option linter.unusedSimpArgs false
def prs1 (l : List (Int × Int)) : List Pr2 := l.map fun q => ⟨q.1, q.2⟩
theorem prs1_length (l : List (Int × Int)) : (prs1 l).length = l.length := List.length_map _
def shN (n : Nd) (kids : List Sh) : Sh := ⟨!n.inner, n.tagged, prs1 n.pairs, n.keys, kids⟩
def readL (f : Int → Ar → Sh × Ar) (r : Int) : Nat → Nat → Ar → List Sh × Ar
  | _, 0, a => ([], a)
  | i, m + 1, a => ((f (a.way r i).1 (a.way r i).2).1 :: (readL f r (i + 1) m (f (a.way r i).1 (a.way r i).2).2).1, (readL f r (i + 1) m (f (a.way r i).1 (a.way r i).2).2).2)
def readT : Nat → Int → Ar → Sh × Ar
  | 0, r, a => (shN (a.look r).1 [], (a.look r).2)
  | d + 1, r, a => (shN (a.look r).1 (readL (readT d) r 0 (a.look r).1.ways.length (a.look r).2).1, (readL (readT d) r 0 (a.look r).1.ways.length (a.look r).2).2)
theorem look_slots (a : Ar) (r : Int) : (a.look r).2.slots = a.slots := by
  unfold Ar.look
  split
  · rfl
  · split <;> rfl
theorem way_slots (a : Ar) (r i : Int) : (a.way r i).2.slots = a.slots := by
  unfold Ar.way
  split
  · rfl
  · split <;> rfl
theorem Ar.Fits.same {a a1 : Ar} (h : a.Fits) (e : a1.slots = a.slots) : a1.Fits := ⟨by rw [e]; exact h.slots, by rw [e]; exact h.node⟩
theorem readL_slots {f : Int → Ar → Sh × Ar} (hf : ∀ r a, (f r a).2.slots = a.slots) (r : Int) : ∀ (m i : Nat) (a : Ar), (readL f r i m a).2.slots = a.slots
  | 0, _, _ => rfl
  | m + 1, i, a => by
    show (readL f r (i + 1) m _).2.slots = _
    rw [readL_slots hf r m, hf, way_slots]
theorem readT_slots : ∀ (d : Nat) (r : Int) (a : Ar), (readT d r a).2.slots = a.slots
  | 0, r, a => look_slots a r
  | d + 1, r, a => by
    show (readL (readT d) r 0 _ _).2.slots = _
    rw [readL_slots (readT_slots d), look_slots]
theorem look_ways (a : Ar) (r : Int) (h : a.Fits) : (a.look r).1.ways.length < 1000000 := by
  unfold Ar.look
  split
  · show (0 : Nat) < _; omega
  · split
    · show (0 : Nat) < _; omega
    · rename_i s hs
      exact (h.node _ s hs).2.2.1
theorem prs1_F {w : World} {ok : Nat → Prop} {A : Option Addr} {n : Nat} {l : List (Int × Int)} (h : kPair.F w ok A n l) : kP.F w ok A n (prs1 l) := Kd.F_imp h (fun W hC => ⟨by rw [prs1_length]; exact hC.1, hC.2.1, fun hp => by
  obtain ⟨ad, e, hc⟩ := hC.2.2 hp
  refine ⟨ad, e, fun j q hq => ?_⟩
  unfold prs1 at hq
  rw [List.getElem?_map] at hq
  cases hx : l[j]? with
  | none => rw [hx] at hq; cases hq
  | some x =>
    rw [hx] at hq
    injection hq with hq
    subst hq
    exact hc j x hx⟩)
structure ReadPost (ok : Nat → Prop) (pA : Nat) (s : Sh) (a1 : Ar) (w : World) (e : Ending) (w1 : World) : Prop where
  out : ∃ cs, e = .returned (.agg cs.toArray) ∧ kSh.FK w1 (fun k => w.heap.size ≤ k) s cs
  ar : IsArena ok pA a1 w1
  moves : Moves ok ok w w1
def shB (n : Nd) (p k v4 : Value) : Obj := .cells #[.bool (!n.inner), .bool n.tagged, p, k, v4] 42 (0, 0)
def ndO (n : Nd) (p k y : Value) : Obj := .cells #[.bool n.inner, .bool n.tagged, p, k, y] 119 (0, 0)
structure RdSt (ok : Nat → Prop) (pA : Nat) (w0 : World) (b6 b7 b8 : Nat) (n : Nd) (A3 : Option Addr) (c3 : Nat) (A4 : Option Addr) (c4 : Nat) (A5 : Option Addr) (c5 : Nat) (v4 : Value) (acc : List Sh) (ac : Ar) (wr : World) : Prop where
  x6 : Mine ok wr b6 (.cells #[.bool false, .bool false, .slice none 0 0, .slice none 0 0, .slice none 0 0] 42 (0, 0))
  x7 : Mine ok wr b7 (ndO n (.slice A3 n.pairs.length c3) (.slice A4 n.keys.length c4) (.slice A5 n.ways.length c5))
  x8 : Mine ok wr b8 (shB n (.slice A3 n.pairs.length c3) (.slice A4 n.keys.length c4) v4)
  ar : IsArena ok pA ac wr
  mv : Moves ok ok w0 wr
  row : Kd.N kSh 42 wr w0.heap.size (fun k => b8 < k) v4 acc
  l3 : n.pairs.length ≤ c3
  f3 : kPair.F wr (fun k => b6 < k ∧ k < b7) A3 n.pairs.length n.pairs
  l4 : n.keys.length ≤ c4
  f4 : (Kd.int .i64).F wr (fun k => b6 < k ∧ k < b7) A4 n.keys.length n.keys
  o6 : w0.heap.size ≤ b6
  o7 : b6 < b7
  o8 : b7 < b8
  lt : ∀ k, ok k → k < w0.heap.size
section
variable {ok : Nat → Prop} {pA : Nat} {w0 : World} {b6 b7 b8 : Nat} {n : Nd} {A3 : Option Addr} {c3 : Nat} {A4 : Option Addr} {c4 : Nat} {A5 : Option Addr} {c5 : Nat} {v4 : Value} {acc : List Sh} {ac : Ar} {wr w1 : World}
theorem RdSt.moves (h : RdSt ok pA w0 b6 b7 b8 n A3 c3 A4 c4 A5 c5 v4 acc ac wr) (m : Moves ok ok wr w1) {a1 : Ar} (ha : IsArena ok pA a1 w1) : RdSt ok pA w0 b6 b7 b8 n A3 c3 A4 c4 A5 c5 v4 acc a1 w1 :=
  { x6 := h.x6.moves m, x7 := h.x7.moves m, x8 := h.x8.moves m, ar := ha, mv := h.mv.trans m
    row := Kd.N_step h.row (fun k hk hlt => m.block k hlt (fun h1 => by have := h.lt k h1; have := h.o6; have := h.o7; have := h.o8; omega))
    l3 := h.l3
    f3 := Kd.F_step h.f3 (fun k hk hlt => m.block k hlt (fun h1 => by have := h.lt k h1; have := h.o6; omega))
    l4 := h.l4
    f4 := Kd.F_step h.f4 (fun k hk hlt => m.block k hlt (fun h1 => by have := h.lt k h1; have := h.o6; omega))
    o6 := h.o6, o7 := h.o7, o8 := h.o8, lt := h.lt }
theorem RdSt.still (h : RdSt ok pA w0 b6 b7 b8 n A3 c3 A4 c4 A5 c5 v4 acc ac wr) (b : Below wr.heap.size wr w1) : RdSt ok pA w0 b6 b7 b8 n A3 c3 A4 c4 A5 c5 v4 acc ac w1 :=
  h.moves (Moves.of_below ok b) (h.ar.step b.size (fun k _ hlt => b.block k hlt))
theorem RdSt.grown (h : RdSt ok pA w0 b6 b7 b8 n A3 c3 A4 c4 A5 c5 v4 acc ac wr) {v1 : Value} {acc1 : List Sh} (hr : Kd.N kSh 42 w1 w0.heap.size (fun k => b8 < k) v1 acc1) (hg : wr.grownBy w1 v4.ownBlock) : RdSt ok pA w0 b6 b7 b8 n A3 c3 A4 c4 A5 c5 v1 acc1 ac (w1.setCell ⟨b8, 4, none⟩ v1) := by
  have h6 := h.o6
  have h7 := h.o7
  have h8 := h.o8
  have hne : ∀ k, k ≤ b8 → some k ≠ v4.ownBlock := fun k hk e => by have := h.row.1 k e.symm; omega
  have hb : ∀ k, k < b8 → k < wr.heap.size → (w1.setCell ⟨b8, 4, none⟩ v1).heap[k]? = wr.heap[k]? := fun k hk hlt => (Below.heap_setCell w1 ⟨b8, 4, none⟩ v1 k (fun e => by have : k = b8 := e; omega)).trans (hg.block k hlt (hne k (by omega)))
  have hok : ∀ k, ok k → k < b8 := fun k hk => by have := h.lt k hk; omega
  have x8 : Mine ok w1 b8 (shB n (.slice A3 n.pairs.length c3) (.slice A4 n.keys.length c4) v4) := ⟨(hg.block b8 (blk_lt h.x8.1) (hne b8 (Nat.le_refl _))).trans h.x8.1, h.x8.2⟩
  exact {
    x6 := ⟨(hb b6 (by omega) (blk_lt h.x6.1)).trans h.x6.1, h.x6.2⟩
    x7 := ⟨(hb b7 (by omega) (blk_lt h.x7.1)).trans h.x7.1, h.x7.2⟩
    x8 := x8.set 4 v1
    ar := h.ar.step (by simpa [World.setCell] using hg.size) (fun k hk hlt => hb k (hok k hk) hlt)
    mv := (h.mv.grown hg (fun k hk => .inr (by have := h.row.1 k hk; omega))).set (p := ⟨b8, 4, none⟩) (.inr (show w0.heap.size ≤ b8 by omega)) _
    row := Kd.N_step hr (fun k hk hlt => Below.heap_setCell w1 ⟨b8, 4, none⟩ v1 k (fun e => by have : k = b8 := e; omega))
    l3 := h.l3
    f3 := Kd.F_step h.f3 (fun k hk hlt => hb k (by omega) hlt)
    l4 := h.l4
    f4 := Kd.F_step h.f4 (fun k hk hlt => hb k (by omega) hlt)
    o6 := h6, o7 := h7, o8 := h8, lt := h.lt }
theorem RdSt.post {A9 : Option Addr} {c9 : Nat} (h : RdSt ok pA w0 b6 b7 b8 n A3 c3 A4 c4 A5 c5 (.slice A9 acc.length c9) acc ac wr) :
    ReadPost ok pA (shN n acc) ac w0 (.returned (.agg #[.bool (!n.inner), .bool n.tagged, .slice A3 n.pairs.length c3, .slice A4 n.keys.length c4, .slice A9 acc.length c9])) (set5 wr b6 (.bool (!n.inner)) (.bool n.tagged) (.slice A3 n.pairs.length c3) (.slice A4 n.keys.length c4) (.slice A9 acc.length c9)) := by
  have h6 := h.o6
  have h7 := h.o7
  have h8 := h.o8
  have hk : kSh.FK wr (fun k => b6 < k) (shN n acc) [.bool (!n.inner), .bool n.tagged, .slice A3 (shN n acc).f2.length c3, .slice A4 (shN n acc).f3.length c4, .slice A9 (shN n acc).f4.length c9] :=
    k42_mkF wr _ (shN n acc) (by show (prs1 n.pairs).length ≤ c3; rw [prs1_length]; exact h.l3) (by show kP.F _ _ _ (prs1 n.pairs).length (prs1 n.pairs); rw [prs1_length]; exact Kd.F_mono (prs1_F h.f3) (fun k hk => hk.1)) h.l4 (Kd.F_mono h.f4 (fun k hk => hk.1)) (Kd.N_reads' h.row).2.1 (Kd.F_mono (Kd.N_F h.row) (fun k hk => by omega))
  refine ⟨⟨_, ?_, Kd.FK_mono (Kd.FK_step hk (fun k hk _ => set5_far _ _ _ _ _ _ _ k (fun e => by omega))) (fun k hk => by omega)⟩, h.ar.step (by rw [set5_size]; exact Nat.le_refl _) (fun k hk _ => set5_far _ _ _ _ _ _ _ k (fun e => by have := h.lt k hk; omega)), set5_moves h.mv h6 _ _ _ _ _⟩
  show _ = Ending.returned (Value.agg #[_, _, .slice A3 (prs1 n.pairs).length c3, _, _])
  rw [prs1_length]
  rfl
end
theorem wrap_pred (d : Nat) (h : d ≤ 1000) : wrap64 (((d + 1 : Nat) : Int) - 1) = (d : Int) := by unfold wrap64; omega
def TRead7 : Bool × List (List Nat × List Nat) := (true, [([], []), ([0], [0]), ([], []), ([], []), ([], []), ([], []), ([3, 4, 5], [3, 4, 5]), ([], []), ([7], [7]), ([2, 6, 8, 6], [2, 6, 8]), ([9], [9]), ([1, 10, 9], [1, 10]), ([0, 1, 2, 3, 4, 5, 6, 7, 8, 9, 10, 11], []), ([12, 11, 11, 0, 1, 2, 3, 4, 5, 6, 7, 8, 9, 10, 11], [11, 12])])
def BRead7 : List Nat := [0, 1, 0, 0, 0, 0, 56, 0, 128, 508, 1020, 2047, 4095, 8191]
theorem tabRead7 : rtab .any (opsOf Tryz.f43 7) = TRead7 := by kernel_rfl
theorem bitsRead7 : waitsOk TRead7.2 BRead7 = true := by kernel_rfl
set_option maxHeartbeats 4000000 in
set_option maxRecDepth 100000 in
theorem read_zero (ok : Nat → Prop) (pA : Nat) (a : Ar) (r : Int) (w : World) (h : IsArena ok pA a w) (hf : a.Fits) :
    Calls Tryz.prog 43 #[.pointer (some ⟨pA, 0, none⟩), .int .i64 r, .int .i64 ((0 : Nat) : Int)] w (ReadPost ok pA (readT 0 r a).1 (readT 0 r a).2 w) := by
  have A1 := Aside0.mk (h.step (w1 := w.alloc (.cells #[.bool false, .bool false, .slice none 0 0, .slice none 0 0, .slice none 0 0] 42)) (by simp) (fun k _ hk => Below.heap_alloc _ _ _ hk))
  have X1 := Aside0.mk (Mine.new (ok := ok) (fun k hk => h.lt k hk) (.cells #[.bool false, .bool false, .slice none 0 0, .slice none 0 0, .slice none 0 0] 42))
  have M1 := Aside0.mk ((Moves.refl ok w).alloc (.cells #[.bool false, .bool false, .slice none 0 0, .slice none 0 0, .slice none 0 0] 42))
  have HFI := Aside0.mk hf
  have HLT := Aside0.mk (fun k hk => h.lt k hk : ∀ k, ok k → k < w.heap.size)
  clear h hf
  have HLK : Aside0 (∀ w1, IsArena ok pA a w1 → Calls Tryz.prog 81 #[.pointer (some ⟨pA, 0, none⟩), .int .i64 r] w1 (LookPost ok pA (a.look r).1 (a.look r).2 w1)) := ⟨fun w1 h1 => look_calls r w1 h1 HFI.out⟩
  have HNN : Aside0 (readT 0 r a = (shN (a.look r).1 [], (a.look r).2)) := ⟨rfl⟩
  generalize readT 0 r a = q at HNN ⊢
  generalize (a.look r).1 = n at HLK HNN ⊢
  generalize (a.look r).2 = a2 at HLK HNN ⊢
  go_enter Tryz.func43, Tryz.ntmps43
  go_upto_region 1 with fail
  generalize w.alloc (.cells #[.bool false, .bool false, .slice none 0 0, .slice none 0 0, .slice none 0 0] 42) = w1 at X1 A1 M1 ⊢
  generalize h6 : w.heap.size = b6 at X1 ⊢
  have E6 := Aside0.mk h6
  clear h6
  go_upto_region 2 with (go_at_call 81; refine (HLK.out _ A1.out).mono ?_; rintro e w2 hL; obtain ⟨v, rfl, hN⟩ := hL.val; obtain ⟨p, k, y, rfl, hp, hk, hy⟩ := hN.out; obtain ⟨A3, c3, rfl⟩ := Kd.R_slice hp; obtain ⟨A4, c4, rfl⟩ := Kd.R_slice hk; obtain ⟨A5, c5, rfl⟩ := Kd.R_slice hy; have A2 := Aside0.mk hL.ar; have M2 := Aside0.mk (M1.out.trans hL.moves); have X2 := Aside0.mk (X1.out.moves hL.moves); have HR2 := Aside0.mk (And.intro hp (And.intro hk hy)); have S2 : Aside0 (w.heap.size < w1.heap.size ∧ w1.heap.size ≤ w2.heap.size) := ⟨by rw [E6.out]; exact X1.out.lt, hL.moves.size⟩; clear hL hN hp hk hy)
  clear X1 A1 M1
  have Y3 := Aside0.mk (Mine.new (ok := ok) (fun q hq => A2.out.lt q hq) (.cells #[.bool n.inner, .bool n.tagged, .slice A3 n.pairs.length c3, .slice A4 n.keys.length c4, .slice A5 n.ways.length c5] 119))
  have X3 := Aside0.mk (X2.out.alloc (.cells #[.bool n.inner, .bool n.tagged, .slice A3 n.pairs.length c3, .slice A4 n.keys.length c4, .slice A5 n.ways.length c5] 119))
  have A3' := Aside0.mk (A2.out.step (w1 := w2.alloc (.cells #[.bool n.inner, .bool n.tagged, .slice A3 n.pairs.length c3, .slice A4 n.keys.length c4, .slice A5 n.ways.length c5] 119)) (by simp) (fun q _ hq => Below.heap_alloc _ _ _ hq))
  have M3 := Aside0.mk (M2.out.alloc (.cells #[.bool n.inner, .bool n.tagged, .slice A3 n.pairs.length c3, .slice A4 n.keys.length c4, .slice A5 n.ways.length c5] 119))
  have L3 := Aside0.mk (below_alloc (Below.refl w2.heap.size w2) (.cells #[.bool n.inner, .bool n.tagged, .slice A3 n.pairs.length c3, .slice A4 n.keys.length c4, .slice A5 n.ways.length c5] 119))
  generalize w2.alloc (.cells #[.bool n.inner, .bool n.tagged, .slice A3 n.pairs.length c3, .slice A4 n.keys.length c4, .slice A5 n.ways.length c5] 119) = w3 at Y3 X3 A3' M3 L3 ⊢
  generalize h7 : w2.heap.size = b7 at Y3 L3 ⊢
  have E7 := Aside0.mk h7
  clear h7
  have y0 := (blk_cell Y3.out.1 0).trans (rfl : _ = some (Value.bool n.inner))
  have y1 := (blk_cell Y3.out.1 1).trans (rfl : _ = some (Value.bool n.tagged))
  have y2 := (blk_cell Y3.out.1 2).trans (rfl : _ = some (Value.slice A3 n.pairs.length c3))
  have y3 := (blk_cell Y3.out.1 3).trans (rfl : _ = some (Value.slice A4 n.keys.length c4))
  have y4 := (blk_cell Y3.out.1 4).trans (rfl : _ = some (Value.slice A5 n.ways.length c5))
  go_upto_region 3 with fail
  clear y0 y1 y2 y3 y4
  have Z4 := Aside0.mk (Mine.new (ok := ok) (fun q hq => A3'.out.lt q hq) (.cells #[.bool (!n.inner), .bool n.tagged, .slice A3 n.pairs.length c3, .slice A4 n.keys.length c4, .slice none 0 0] 42))
  have Y4 := Aside0.mk (Y3.out.alloc (.cells #[.bool (!n.inner), .bool n.tagged, .slice A3 n.pairs.length c3, .slice A4 n.keys.length c4, .slice none 0 0] 42))
  have X4 := Aside0.mk (X3.out.alloc (.cells #[.bool (!n.inner), .bool n.tagged, .slice A3 n.pairs.length c3, .slice A4 n.keys.length c4, .slice none 0 0] 42))
  have A4' := Aside0.mk (A3'.out.step (w1 := w3.alloc (.cells #[.bool (!n.inner), .bool n.tagged, .slice A3 n.pairs.length c3, .slice A4 n.keys.length c4, .slice none 0 0] 42)) (by simp) (fun q _ hq => Below.heap_alloc _ _ _ hq))
  have M4 := Aside0.mk (M3.out.alloc (.cells #[.bool (!n.inner), .bool n.tagged, .slice A3 n.pairs.length c3, .slice A4 n.keys.length c4, .slice none 0 0] 42))
  have L4 := Aside0.mk (below_then L3.out (by rw [← E7.out]; exact L3.out.size) (below_alloc (Below.refl w3.heap.size w3) (.cells #[.bool (!n.inner), .bool n.tagged, .slice A3 n.pairs.length c3, .slice A4 n.keys.length c4, .slice none 0 0] 42)))
  have S3 := Aside0.mk Y3.out.lt
  clear Y3 X3 A3' M3 L3
  generalize w3.alloc (.cells #[.bool (!n.inner), .bool n.tagged, .slice A3 n.pairs.length c3, .slice A4 n.keys.length c4, .slice none 0 0] 42) = w4 at Z4 Y4 X4 A4' M4 L4 ⊢
  generalize h8 : w3.heap.size = b8 at Z4 S3 ⊢
  have E8 := Aside0.mk h8
  clear h8
  have ST : Aside0 (RdSt ok pA w b6 b7 b8 n A3 c3 A4 c4 A5 c5 (.slice none 0 0) [] a2 w4) := ⟨by
    have hs := S2.out
    have h7 := E7.out
    have h6 := E6.out
    have h67 : b6 < b7 := by omega
    exact { x6 := X4.out, x7 := Y4.out, x8 := Z4.out, ar := A4'.out, mv := M4.out, row := Kd.N_nil _ _ _ _ _
            l3 := (Kd.R_reads' HR2.out.1).2.1, f3 := Kd.F_mono (Kd.F_step (Kd.F_bound (Kd.R_F HR2.out.1)) (fun k hk hlt => L4.out.block k (by omega))) (fun k hk => by omega)
            l4 := (Kd.R_reads' HR2.out.2.1).2.1, f4 := Kd.F_mono (Kd.F_step (Kd.F_bound (Kd.R_F HR2.out.2.1)) (fun k hk hlt => L4.out.block k (by omega))) (fun k hk => by omega)
            o6 := by omega, o7 := h67, o8 := S3.out, lt := HLT.out }⟩
  clear X4 Y4 Z4 A4' M4 L4 HR2 S2 S3
  have y0 := (blk_cell ST.out.x8.1 0).trans (rfl : _ = some (Value.bool (!n.inner)))
  have y1 := (blk_cell ST.out.x8.1 1).trans (rfl : _ = some (Value.bool n.tagged))
  have y2 := (blk_cell ST.out.x8.1 2).trans (rfl : _ = some (Value.slice A3 n.pairs.length c3))
  have y3 := (blk_cell ST.out.x8.1 3).trans (rfl : _ = some (Value.slice A4 n.keys.length c4))
  have y4 := (blk_cell ST.out.x8.1 4).trans (rfl : _ = some (Value.slice none 0 0))
  have k0 := (blk_cell ST.out.x6.1 0).trans (rfl : _ = some (Value.bool false))
  have k1 := (blk_cell ST.out.x6.1 1).trans (rfl : _ = some (Value.bool false))
  have k2 := (blk_cell ST.out.x6.1 2).trans (rfl : _ = some (Value.slice none 0 0))
  have k3 := (blk_cell ST.out.x6.1 3).trans (rfl : _ = some (Value.slice none 0 0))
  have k4 := (blk_cell ST.out.x6.1 4).trans (rfl : _ = some (Value.slice none 0 0))
  have z0 := blk_frozen ST.out.x6.1 0
  have z1 := blk_frozen ST.out.x6.1 1
  have z2 := blk_frozen ST.out.x6.1 2
  have z3 := blk_frozen ST.out.x6.1 3
  have z4 := blk_frozen ST.out.x6.1 4
  go_wp2_with fail
  show bodyPost _ _ _ _ _ (set5 w4 b6 (.bool (!n.inner)) (.bool n.tagged) (.slice A3 n.pairs.length c3) (.slice A4 n.keys.length c4) (.slice none 0 0))
  refine bodyPost_ret (results_c rfl _ _ b6 42 _ (0, 0) _ rfl (set5_box ST.out.x6.1 _ _ _ _ _) Tryz.underlying42 rfl (by kernel_rfl)) rfl ?_
  rw [HNN.out]
  exact ST.out.post
set_option maxHeartbeats 4000000 in
set_option maxRecDepth 100000 in
theorem read_succ (d : Nat) (hd : d ≤ 1000) (ih : ∀ (ok : Nat → Prop) (pA : Nat) (a : Ar) (r : Int) (w : World), IsArena ok pA a w → a.Fits → Calls Tryz.prog 43 #[.pointer (some ⟨pA, 0, none⟩), .int .i64 r, .int .i64 (d : Int)] w (ReadPost ok pA (readT d r a).1 (readT d r a).2 w)) (ok : Nat → Prop) (pA : Nat) (a : Ar) (r : Int) (w : World) (h : IsArena ok pA a w) (hf : a.Fits) :
    Calls Tryz.prog 43 #[.pointer (some ⟨pA, 0, none⟩), .int .i64 r, .int .i64 ((d + 1 : Nat) : Int)] w (ReadPost ok pA (readT (d + 1) r a).1 (readT (d + 1) r a).2 w) := by
  have A1 := Aside0.mk (h.step (w1 := w.alloc (.cells #[.bool false, .bool false, .slice none 0 0, .slice none 0 0, .slice none 0 0] 42)) (by simp) (fun k _ hk => Below.heap_alloc _ _ _ hk))
  have X1 := Aside0.mk (Mine.new (ok := ok) (fun k hk => h.lt k hk) (.cells #[.bool false, .bool false, .slice none 0 0, .slice none 0 0, .slice none 0 0] 42))
  have M1 := Aside0.mk ((Moves.refl ok w).alloc (.cells #[.bool false, .bool false, .slice none 0 0, .slice none 0 0, .slice none 0 0] 42))
  have HFI := Aside0.mk hf
  have HLT := Aside0.mk (fun k hk => h.lt k hk : ∀ k, ok k → k < w.heap.size)
  clear h hf
  have HLK : Aside0 (∀ w1, IsArena ok pA a w1 → Calls Tryz.prog 81 #[.pointer (some ⟨pA, 0, none⟩), .int .i64 r] w1 (LookPost ok pA (a.look r).1 (a.look r).2 w1)) := ⟨fun w1 h1 => look_calls r w1 h1 HFI.out⟩
  have HWP := Aside0.mk (wrap_pred d hd)
  have HF2 := Aside0.mk (HFI.out.same (look_slots a r))
  have HNN : Aside0 (readT (d + 1) r a = (shN (a.look r).1 (readL (readT d) r 0 (a.look r).1.ways.length (a.look r).2).1, (readL (readT d) r 0 (a.look r).1.ways.length (a.look r).2).2)) := ⟨rfl⟩
  have HWL := Aside0.mk (look_ways a r HFI.out)
  generalize readT (d + 1) r a = q at HNN ⊢
  generalize (a.look r).1 = n at HLK HNN HWL ⊢
  generalize (a.look r).2 = a2 at HLK HNN HF2 ⊢
  go_enter Tryz.func43, Tryz.ntmps43
  go_upto_region 1 with fail
  generalize w.alloc (.cells #[.bool false, .bool false, .slice none 0 0, .slice none 0 0, .slice none 0 0] 42) = w1 at X1 A1 M1 ⊢
  generalize h6 : w.heap.size = b6 at X1 ⊢
  have E6 := Aside0.mk h6
  clear h6
  go_upto_region 2 with (go_at_call 81; refine (HLK.out _ A1.out).mono ?_; rintro e w2 hL; obtain ⟨v, rfl, hN⟩ := hL.val; obtain ⟨p, k, y, rfl, hp, hk, hy⟩ := hN.out; obtain ⟨A3, c3, rfl⟩ := Kd.R_slice hp; obtain ⟨A4, c4, rfl⟩ := Kd.R_slice hk; obtain ⟨A5, c5, rfl⟩ := Kd.R_slice hy; have A2 := Aside0.mk hL.ar; have M2 := Aside0.mk (M1.out.trans hL.moves); have X2 := Aside0.mk (X1.out.moves hL.moves); have HR2 := Aside0.mk (And.intro hp (And.intro hk hy)); have S2 : Aside0 (w.heap.size < w1.heap.size ∧ w1.heap.size ≤ w2.heap.size) := ⟨by rw [E6.out]; exact X1.out.lt, hL.moves.size⟩; clear hL hN hp hk hy)
  clear X1 A1 M1
  have Y3 := Aside0.mk (Mine.new (ok := ok) (fun q hq => A2.out.lt q hq) (.cells #[.bool n.inner, .bool n.tagged, .slice A3 n.pairs.length c3, .slice A4 n.keys.length c4, .slice A5 n.ways.length c5] 119))
  have X3 := Aside0.mk (X2.out.alloc (.cells #[.bool n.inner, .bool n.tagged, .slice A3 n.pairs.length c3, .slice A4 n.keys.length c4, .slice A5 n.ways.length c5] 119))
  have A3' := Aside0.mk (A2.out.step (w1 := w2.alloc (.cells #[.bool n.inner, .bool n.tagged, .slice A3 n.pairs.length c3, .slice A4 n.keys.length c4, .slice A5 n.ways.length c5] 119)) (by simp) (fun q _ hq => Below.heap_alloc _ _ _ hq))
  have M3 := Aside0.mk (M2.out.alloc (.cells #[.bool n.inner, .bool n.tagged, .slice A3 n.pairs.length c3, .slice A4 n.keys.length c4, .slice A5 n.ways.length c5] 119))
  have L3 := Aside0.mk (below_alloc (Below.refl w2.heap.size w2) (.cells #[.bool n.inner, .bool n.tagged, .slice A3 n.pairs.length c3, .slice A4 n.keys.length c4, .slice A5 n.ways.length c5] 119))
  generalize w2.alloc (.cells #[.bool n.inner, .bool n.tagged, .slice A3 n.pairs.length c3, .slice A4 n.keys.length c4, .slice A5 n.ways.length c5] 119) = w3 at Y3 X3 A3' M3 L3 ⊢
  generalize h7 : w2.heap.size = b7 at Y3 L3 ⊢
  have E7 := Aside0.mk h7
  clear h7
  have y0 := (blk_cell Y3.out.1 0).trans (rfl : _ = some (Value.bool n.inner))
  have y1 := (blk_cell Y3.out.1 1).trans (rfl : _ = some (Value.bool n.tagged))
  have y2 := (blk_cell Y3.out.1 2).trans (rfl : _ = some (Value.slice A3 n.pairs.length c3))
  have y3 := (blk_cell Y3.out.1 3).trans (rfl : _ = some (Value.slice A4 n.keys.length c4))
  have y4 := (blk_cell Y3.out.1 4).trans (rfl : _ = some (Value.slice A5 n.ways.length c5))
  go_upto_region 3 with fail
  clear y0 y1 y2 y3 y4
  have Z4 := Aside0.mk (Mine.new (ok := ok) (fun q hq => A3'.out.lt q hq) (.cells #[.bool (!n.inner), .bool n.tagged, .slice A3 n.pairs.length c3, .slice A4 n.keys.length c4, .slice none 0 0] 42))
  have Y4 := Aside0.mk (Y3.out.alloc (.cells #[.bool (!n.inner), .bool n.tagged, .slice A3 n.pairs.length c3, .slice A4 n.keys.length c4, .slice none 0 0] 42))
  have X4 := Aside0.mk (X3.out.alloc (.cells #[.bool (!n.inner), .bool n.tagged, .slice A3 n.pairs.length c3, .slice A4 n.keys.length c4, .slice none 0 0] 42))
  have A4' := Aside0.mk (A3'.out.step (w1 := w3.alloc (.cells #[.bool (!n.inner), .bool n.tagged, .slice A3 n.pairs.length c3, .slice A4 n.keys.length c4, .slice none 0 0] 42)) (by simp) (fun q _ hq => Below.heap_alloc _ _ _ hq))
  have M4 := Aside0.mk (M3.out.alloc (.cells #[.bool (!n.inner), .bool n.tagged, .slice A3 n.pairs.length c3, .slice A4 n.keys.length c4, .slice none 0 0] 42))
  have L4 := Aside0.mk (below_then L3.out (by rw [← E7.out]; exact L3.out.size) (below_alloc (Below.refl w3.heap.size w3) (.cells #[.bool (!n.inner), .bool n.tagged, .slice A3 n.pairs.length c3, .slice A4 n.keys.length c4, .slice none 0 0] 42)))
  have S3 := Aside0.mk Y3.out.lt
  clear Y3 X3 A3' M3 L3
  generalize w3.alloc (.cells #[.bool (!n.inner), .bool n.tagged, .slice A3 n.pairs.length c3, .slice A4 n.keys.length c4, .slice none 0 0] 42) = w4 at Z4 Y4 X4 A4' M4 L4 ⊢
  generalize h8 : w3.heap.size = b8 at Z4 S3 ⊢
  have E8 := Aside0.mk h8
  clear h8
  have ST : Aside0 (RdSt ok pA w b6 b7 b8 n A3 c3 A4 c4 A5 c5 (.slice none 0 0) [] a2 w4) := ⟨by
    have hs := S2.out
    have h7 := E7.out
    have h6 := E6.out
    have h67 : b6 < b7 := by omega
    exact { x6 := X4.out, x7 := Y4.out, x8 := Z4.out, ar := A4'.out, mv := M4.out, row := Kd.N_nil _ _ _ _ _
            l3 := (Kd.R_reads' HR2.out.1).2.1, f3 := Kd.F_mono (Kd.F_step (Kd.F_bound (Kd.R_F HR2.out.1)) (fun k hk hlt => L4.out.block k (by omega))) (fun k hk => by omega)
            l4 := (Kd.R_reads' HR2.out.2.1).2.1, f4 := Kd.F_mono (Kd.F_step (Kd.F_bound (Kd.R_F HR2.out.2.1)) (fun k hk hlt => L4.out.block k (by omega))) (fun k hk => by omega)
            o6 := by omega, o7 := h67, o8 := S3.out, lt := HLT.out }⟩
  clear X4 Y4 Z4 A4' M4 L4 HR2 S2 S3
  have y0 := (blk_cell ST.out.x7.1 0).trans (rfl : _ = some (Value.bool n.inner))
  have y1 := (blk_cell ST.out.x7.1 1).trans (rfl : _ = some (Value.bool n.tagged))
  have y2 := (blk_cell ST.out.x7.1 2).trans (rfl : _ = some (Value.slice A3 n.pairs.length c3))
  have y3 := (blk_cell ST.out.x7.1 3).trans (rfl : _ = some (Value.slice A4 n.keys.length c4))
  have y4 := (blk_cell ST.out.x7.1 4).trans (rfl : _ = some (Value.slice A5 n.ways.length c5))
  have d0 : decide (((d + 1 : Nat) : Int) > 0) = true := decide_eq_true (by omega)
  go_upto_region 5 with fail
  clear y0 y1 y2 y3 y4
  generalize hkl : (readL (readT d) r 0 n.ways.length a2).1 = kids at HNN ⊢
  generalize hae : (readL (readT d) r 0 n.ways.length a2).2 = aE at HNN ⊢
  have HKL := Aside0.mk hkl
  have HAE := Aside0.mk hae
  clear hkl hae
  go_wp2_with fail
  go_loopw [30] (fun v30 wr => ∃ ac acc i m v4, v30 = .int .i64 (i : Nat) ∧ Aside0 (i + m = n.ways.length ∧ acc.length = i ∧ acc ++ (readL (readT d) r i m ac).1 = kids ∧ (readL (readT d) r i m ac).2 = aE ∧ ac.Fits) ∧ Aside0 (RdSt ok pA w b6 b7 b8 n A3 c3 A4 c4 A5 c5 v4 acc ac wr)) (fun v30 _ => n.ways.length - (intOf v30).toNat)
  case atStart => exact ⟨a2, [], 0, n.ways.length, .slice none 0 0, rfl, ⟨by omega, rfl, HKL.out, HAE.out, HF2.out⟩, ST⟩
  case round =>
    obtain ⟨ac, acc, i, m, v4, rfl, HT, S5⟩ := hrel
    clear ST HKL HAE HF2
    have HI := Aside0.mk HT.out.1
    have HA60 : Aside0 (acc.length ≤ 1000000) := ⟨by have := HT.out.1; have := HT.out.2.1; have := HWL.out; omega⟩
    cases m with
    | zero =>
      have hi := HT.out.1
      rw [Nat.add_zero] at hi
      have d5 : decide ((i : Int) < (n.ways.length : Int)) = false := decide_eq_false (by omega)
      have d6 : decide (i < n.ways.length) = false := decide_eq_false (by omega)
      have e1 : acc = kids := by have := HT.out.2.2.1; rw [readL, List.append_nil] at this; exact this
      have e2 : ac = aE := by have := HT.out.2.2.2.1; rw [readL] at this; exact this
      subst e1
      subst e2
      obtain ⟨A9, c9, rfl⟩ := Kd.N_slice S5.out.row
      clear hi HT
      have y0 := (blk_cell S5.out.x8.1 0).trans (rfl : _ = some (Value.bool (!n.inner)))
      have y1 := (blk_cell S5.out.x8.1 1).trans (rfl : _ = some (Value.bool n.tagged))
      have y2 := (blk_cell S5.out.x8.1 2).trans (rfl : _ = some (Value.slice A3 n.pairs.length c3))
      have y3 := (blk_cell S5.out.x8.1 3).trans (rfl : _ = some (Value.slice A4 n.keys.length c4))
      have y4 := (blk_cell S5.out.x8.1 4).trans (rfl : _ = some (Value.slice A9 acc.length c9))
      have k0 := (blk_cell S5.out.x6.1 0).trans (rfl : _ = some (Value.bool false))
      have k1 := (blk_cell S5.out.x6.1 1).trans (rfl : _ = some (Value.bool false))
      have k2 := (blk_cell S5.out.x6.1 2).trans (rfl : _ = some (Value.slice none 0 0))
      have k3 := (blk_cell S5.out.x6.1 3).trans (rfl : _ = some (Value.slice none 0 0))
      have k4 := (blk_cell S5.out.x6.1 4).trans (rfl : _ = some (Value.slice none 0 0))
      have z0 := blk_frozen S5.out.x6.1 0
      have z1 := blk_frozen S5.out.x6.1 1
      have z2 := blk_frozen S5.out.x6.1 2
      have z3 := blk_frozen S5.out.x6.1 3
      have z4 := blk_frozen S5.out.x6.1 4
      go_wp2_with fail
      show bodyPost _ _ _ _ _ (set5 wr b6 (.bool (!n.inner)) (.bool n.tagged) (.slice A3 n.pairs.length c3) (.slice A4 n.keys.length c4) (.slice A9 acc.length c9))
      refine bodyPost_ret (results_c rfl _ _ b6 42 _ (0, 0) _ rfl (set5_box S5.out.x6.1 _ _ _ _ _) Tryz.underlying42 rfl (by kernel_rfl)) rfl ?_
      rw [HNN.out]
      exact S5.out.post
    | succ m =>
      have hi := HT.out.1
      have d5 : decide ((i : Int) < (n.ways.length : Int)) = true := decide_eq_true (by omega)
      have d6 : decide (i < n.ways.length) = true := decide_eq_true (by omega)
      have HAC := Aside0.mk HT.out.2.1
      have HKI := Aside0.mk HT.out.2.2.1
      have HRE := Aside0.mk HT.out.2.2.2.1
      have HFC := Aside0.mk HT.out.2.2.2.2
      rw [readL] at HKI HRE
      clear HT hi
      have HC := Aside0.mk (show wr.cell? ⟨b8, 4, none⟩ = some v4 from (blk_cell S5.out.x8.1 4).trans rfl)
      go_upto_region 7 with fail
      refine start_ (n := 14) (S := fun w' => w'.cell? ⟨b8, 4, none⟩ = some v4) (ds := [13]) #[N_,N_,N_,N_,N_,N_,N_,N_,N_,N_,N_,N_,N_,N_] (by kernel_rfl) rfl rfl HC.out (fun hHeld => ?_); refine with_tabW tabRead7 bitsRead7 (fun HT_ HW_ => ?_)
      have S6 := Aside0.mk (S5.out.still (below_drew (Below.refl _ _)))
      clear S5 HC
      generalize wr.drew = w6 at S6 hHeld ⊢
      refine pure_ (i := 0) (N := (some 33)) (v := ?_) (a' := ?_) #[Y_,N_,N_,N_,N_,N_,N_,N_,N_,N_,N_,N_,N_,N_] rfl rfl (any_of HT_.out (by kernel_rfl)) (fun _ _ _ h => h) (Or.inl ⟨by rfl, ?_⟩) ?_ ?_
      rotate_left; · intro w'; go_simp; with_reducible rfl
      rotate_left; · simp only [Act.put, u1_, u2_, u3_, i64_w, i32_w]; rfl
      refine take_ (i := 1) (N := (some 34)) (v := ?_) (a' := ?_) #[Y_,Y_,N_,N_,N_,N_,N_,N_,N_,N_,N_,N_,N_,N_] rfl rfl (take_ofW HT_.out HW_.out (by kernel_rfl)) (fun _ _ _ h => h) (Or.inl ⟨by rfl, ?_⟩) hHeld ?_ ?_
      rotate_left; · rintro w' s4; go_simp; with_reducible rfl
      rotate_left; · simp only [Act.put, u1_, u2_, u3_, i64_w, i32_w]; rfl
      refine pure_ (i := 2) (N := (some 35)) (v := ?_) (a' := ?_) #[Y_,Y_,Y_,N_,N_,N_,N_,N_,N_,N_,N_,N_,N_,N_] rfl rfl (any_of HT_.out (by kernel_rfl)) (fun _ _ _ h => h) (Or.inl ⟨by rfl, ?_⟩) ?_ ?_
      rotate_left; · intro w'; go_simp; with_reducible rfl
      rotate_left; · simp only [Act.put, u1_, u2_, u3_, i64_w, i32_w]; rfl
      refine pure_ (i := 3) (N := (some 36)) (v := ?_) (a' := ?_) #[Y_,Y_,Y_,Y_,N_,N_,N_,N_,N_,N_,N_,N_,N_,N_] rfl rfl (any_of HT_.out (by kernel_rfl)) (fun _ _ _ h => h) (Or.inl ⟨by rfl, ?_⟩) ?_ ?_
      rotate_left; · intro w'; go_simp; with_reducible rfl
      rotate_left; · simp only [Act.put, u1_, u2_, u3_, i64_w, i32_w]; rfl
      refine pure_ (i := 4) (N := (some 37)) (v := ?_) (a' := ?_) #[Y_,Y_,Y_,Y_,Y_,N_,N_,N_,N_,N_,N_,N_,N_,N_] rfl rfl (any_of HT_.out (by kernel_rfl)) (fun _ _ _ h => h) (Or.inl ⟨by rfl, ?_⟩) ?_ ?_
      rotate_left; · intro w'; go_simp; with_reducible rfl
      rotate_left; · simp only [Act.put, u1_, u2_, u3_, i64_w, i32_w]; rfl
      refine pure_ (i := 5) (N := (some 38)) (v := ?_) (a' := ?_) #[Y_,Y_,Y_,Y_,Y_,Y_,N_,N_,N_,N_,N_,N_,N_,N_] rfl rfl (any_of HT_.out (by kernel_rfl)) (fun _ _ _ h => h) (Or.inl ⟨by rfl, ?_⟩) ?_ ?_
      rotate_left; · intro w'; go_simp; with_reducible rfl
      rotate_left; · simp only [Act.put, u1_, u2_, u3_, i64_w, i32_w]; rfl
      refine pure_ (i := 7) (N := (some 40)) (v := ?_) (a' := ?_) #[Y_,Y_,Y_,Y_,Y_,Y_,N_,Y_,N_,N_,N_,N_,N_,N_] rfl rfl (any_of HT_.out (by kernel_rfl)) (fun _ _ _ h => h) (Or.inl ⟨by rfl, ?_⟩) ?_ ?_
      rotate_left; · intro w'; go_simp; with_reducible rfl
      rotate_left; · simp only [Act.put, u1_, u2_, u3_, i64_w, i32_w]; rfl
      refine pure_ (i := 8) (N := (some 41)) (v := ?_) (a' := ?_) #[Y_,Y_,Y_,Y_,Y_,Y_,N_,Y_,Y_,N_,N_,N_,N_,N_] rfl rfl (any_of HT_.out (by kernel_rfl)) (fun _ _ _ h => h) (Or.inl ⟨by rfl, ?_⟩) ?_ ?_
      rotate_left; · intro w'; go_simp; with_reducible rfl
      rotate_left; · simp only [Act.put, u1_, u2_, u3_, i64_w, i32_w]; rfl
      refine one_ (i := 6) (N := (some 39)) #[Y_,Y_,Y_,Y_,Y_,Y_,Y_,Y_,Y_,N_,N_,N_,N_,N_] rfl rfl (one_of HT_.out (by kernel_rfl)) (by decide) (fun K_ hK => ?_)
      refine call_ 44 #[.pointer (some ⟨pA, 0, none⟩), .int .i64 r, .int .i64 (i : Int)] (by rfl) rfl ?hrun6 ?_
      (case hrun6 => first | (go_simp; done) | (go_simp; exact enters Tryz.func44 (by kernel_rfl) rfl _ _))
      refine (way_calls r (i : Int) w6 S6.out.ar HFC.out.slots).mono ?_
      rintro e w7 ⟨rfl, hA7, hM7⟩
      have S7 := Aside0.mk (S6.out.moves hM7 hA7)
      clear hA7 hM7 S6
      have HFW := Aside0.mk (HFC.out.same (way_slots ac r (i : Int)))
      generalize (ac.way r (i : Int)).1 = xr at HKI HRE ⊢
      generalize (ac.way r (i : Int)).2 = a7 at S7 HKI HRE HFW ⊢
      refine ⟨_, rfl, ?_⟩
      refine hK.out _ _ ((blk_cell S7.out.x8.1 4).trans rfl) (fun hHeld => ?_)
      clear hK K_
      refine norm_ (a' := ?_) ?_ ?_
      rotate_left; · show Act.put _ (some 39) _ = _; simp only [Act.put, u1_, u2_, u3_, i64_w, i32_w]; rfl
      refine one_ (i := 9) (N := (some 42)) #[Y_,Y_,Y_,Y_,Y_,Y_,Y_,Y_,Y_,Y_,N_,N_,N_,N_] rfl rfl (one_of HT_.out (by kernel_rfl)) (by decide) (fun K_ hK => ?_)
      refine call_ 43 #[.pointer (some ⟨pA, 0, none⟩), .int .i64 xr, .int .i64 (wrap64 (((d + 1 : Nat) : Int) - 1))] (by rfl) rfl ?hrun9 ?_
      (case hrun9 => first | (go_simp; done) | (go_simp; exact enters Tryz.func43 (by kernel_rfl) rfl _ _))
      rw [HWP.out]
      refine (ih ok pA a7 xr w7 S7.out.ar HFW.out).mono ?_
      rintro e w8 hE
      obtain ⟨cs, rfl, hfk⟩ := hE.out
      have S8 := Aside0.mk (S7.out.moves hE.moves hE.ar)
      have HFR := Aside0.mk (HFW.out.same (readT_slots d xr a7))
      have HV8 : Aside0 (∀ q, v4.ownBlock = some q → q < w7.heap.size) := ⟨Kd.N_lt S7.out.row⟩
      have H78 : Aside0 (b8 < w7.heap.size ∧ w7.heap.size ≤ w8.heap.size) := ⟨blk_lt S7.out.x8.1, hE.moves.size⟩
      clear hE S7 HFW
      generalize (readT d xr a7).1 = kd at hfk HKI ⊢
      generalize (readT d xr a7).2 = a8 at S8 HRE HKI HFR ⊢
      obtain ⟨B2, d2, B3, d3, B4, d4, rfl, _⟩ := k42_openF hfk
      have HFK := Aside0.mk hfk
      clear hfk
      refine ⟨_, rfl, ?_⟩
      refine hK.out _ _ ((blk_cell S8.out.x8.1 4).trans rfl) (fun hHeld => ?_)
      clear hK K_
      refine norm_ (a' := ?_) ?_ ?_
      rotate_left; · show Act.put _ (some 42) _ = _; simp only [Act.put, u1_, u2_, u3_, i64_w, i32_w]; rfl
      refine one_ (i := 10) (N := (some 43)) #[Y_,Y_,Y_,Y_,Y_,Y_,Y_,Y_,Y_,Y_,Y_,N_,N_,N_] rfl rfl (one_of HT_.out (by kernel_rfl)) (by decide) (fun K_ hK => ?_)
      refine value_ (v := .slice (some ⟨w8.heap.size, 0, none⟩) 1 1) (w1 := w8.alloc (.cells #[.bool kd.f0, .bool kd.f1, .slice B2 kd.f2.length d2, .slice B3 kd.f3.length d3, .slice B4 kd.f4.length d4] 42)) (by rfl) rfl (by go_simp) ?_
      have S9 := Aside0.mk (S8.out.still (below_alloc (Below.refl _ _) (.cells #[.bool kd.f0, .bool kd.f1, .slice B2 kd.f2.length d2, .slice B3 kd.f3.length d3, .slice B4 kd.f4.length d4] 42)))
      have hbx := blk_new w8 (.cells #[.bool kd.f0, .bool kd.f1, .slice B2 kd.f2.length d2, .slice B3 kd.f3.length d3, .slice B4 kd.f4.length d4] 42)
      have HFK9 := Aside0.mk (Kd.FK_step (W1 := w8.alloc (.cells #[.bool kd.f0, .bool kd.f1, .slice B2 kd.f2.length d2, .slice B3 kd.f3.length d3, .slice B4 kd.f4.length d4] 42)) (Kd.FK_bound HFK.out) (fun q hq hlt => Below.heap_alloc _ _ _ hlt))
      refine hK.out _ _ ((blk_cell S9.out.x8.1 4).trans rfl) (fun hHeld => ?_)
      clear hK K_
      refine norm_ (a' := ?_) ?_ ?_
      rotate_left; · show Act.put _ (some 43) _ = _; simp only [Act.put, u1_, u2_, u3_, i64_w, i32_w]; rfl
      refine one_ (i := 11) (N := (some 44)) #[Y_,Y_,Y_,Y_,Y_,Y_,Y_,Y_,Y_,Y_,Y_,Y_,N_,N_] rfl rfl (one_of HT_.out (by kernel_rfl)) (by decide) (fun K_ hK => ?_)
      clear S8 HFK
      generalize w8.alloc (.cells #[.bool kd.f0, .bool kd.f1, .slice B2 kd.f2.length d2, .slice B3 kd.f3.length d3, .slice B4 kd.f4.length d4] 42) = w9 at S9 hbx HFK9 hHeld ⊢
      have hlt9 := blk_lt hbx
      refine Kd.N_append_rows_step kSh (w0 := w9) w.heap.size (by rfl) (.tmp 34) (.tmp 43) 40 42 (.agg #[(.bool false), (.bool false), (.slice none 0 0), (.slice none 0 0), (.slice none 0 0)]) 80 rfl Tryz.underlying40 info42 rfl (by decide) (by omega) v4 acc [kd] (some ⟨w8.heap.size, 0, none⟩) 1 1 (fun q => b8 < q) (fun q => q = w8.heap.size ∨ (w7.heap.size ≤ q ∧ q < w8.heap.size)) (by rfl) (by rfl) S9.out.row (one_F hbx HFK9.out)
        (fun q hq => ⟨by have := H78.out; omega, fun e => by have := HV8.out q e.symm; have := H78.out; omega⟩) (fun q hq => by have := blk_lt S9.out.x8.1; omega) (Below.refl _ _) S9.out.mv.size (by have := HA60.out; omega) ?_
      intro v1 w10 hN _ hg hat
      have S10 := Aside0.mk (S9.out.grown hN hg)
      have hx8 : Mine ok w10 b8 (shB n (.slice A3 n.pairs.length c3) (.slice A4 n.keys.length c4) v4) := ⟨(hg.block b8 (blk_lt S9.out.x8.1) (fun e => by have := S9.out.row.1 b8 e.symm; omega)).trans S9.out.x8.1, S9.out.x8.2⟩
      have HX8 := Aside0.mk hx8
      obtain ⟨A9, c9, rfl⟩ := Kd.N_slice hN
      clear hN hg hat S9 hbx HFK9 hx8 hlt9
      refine hK.out _ _ ((blk_cell HX8.out.1 4).trans rfl) (fun hHeld => ?_)
      clear hK K_
      refine norm_ (a' := ?_) ?_ ?_
      rotate_left; · show Act.put _ (some 44) _ = _; simp only [Act.put, u1_, u2_, u3_, i64_w, i32_w]; rfl
      refine pure_ (i := 12) (N := (some 45)) (v := ?_) (a' := ?_) #[Y_,Y_,Y_,Y_,Y_,Y_,Y_,Y_,Y_,Y_,Y_,Y_,Y_,N_] rfl rfl (any_of HT_.out (by kernel_rfl)) (fun _ _ _ h => h) (Or.inl ⟨by rfl, ?_⟩) ?_ ?_
      rotate_left; · intro w'; go_simp; with_reducible rfl
      rotate_left; · simp only [Act.put, u1_, u2_, u3_, i64_w, i32_w]; rfl
      have y4 := (blk_cell HX8.out.1 4).trans (rfl : _ = some v4)
      have z4 := blk_frozen HX8.out.1 4
      refine last_ (i := 13) (N := none) #[Y_,Y_,Y_,Y_,Y_,Y_,Y_,Y_,Y_,Y_,Y_,Y_,Y_,Y_] rfl rfl (one_of HT_.out (by kernel_rfl)) (by decide) (fun K_ hK => ?_)
      refine skip_ (w1 := ?_) (by rfl) rfl ?_ ?_
      rotate_left
      · go_simp
        rfl
      refine hK.out _ _ ?_
      clear hK K_
      refine done_ (done_of HT_.out (by kernel_rfl)) ?_
      have S11 : Aside0 (RdSt ok pA w b6 b7 b8 n A3 c3 A4 c4 A5 c5 (.slice A9 (acc.length + 1) c9) (acc ++ [kd]) a8 (w10.setCell ⟨b8, 4, none⟩ (.slice A9 (acc.length + 1) c9))) := ⟨by
        have h1 := S10.out
        rw [show (acc ++ [kd]).length = acc.length + 1 from by simp] at h1
        exact h1⟩
      clear S10 HX8 hHeld y4 z4
      generalize w10.setCell ⟨b8, 4, none⟩ (.slice A9 (acc.length + 1) c9) = w11 at S11 ⊢
      have hi1 := HI.out
      have hi2 : i ≤ 1000000 := by have := HAC.out; have := HA60.out; omega
      have hk1 : (acc ++ [kd]) ++ (readL (readT d) r (i + 1) m a8).1 = kids := by rw [List.append_assoc]; exact HKI.out
      go_wp2_with fail
      exact ⟨⟨a8, acc ++ [kd], i + 1, m, _, by first | rfl | rw [wrap_mill i hi2], ⟨by omega, by rw [List.length_append, HAC.out]; rfl, hk1, HRE.out, HFR.out⟩, S11⟩, by first | exact meas_mill (by omega) hi2 | (show n.ways.length - (i + 1) < n.ways.length - i; omega)⟩
theorem read_calls (d : Nat) (hd : d ≤ 1000) : ∀ (ok : Nat → Prop) (pA : Nat) (a : Ar) (r : Int) (w : World), IsArena ok pA a w → a.Fits → Calls Tryz.prog 43 #[.pointer (some ⟨pA, 0, none⟩), .int .i64 r, .int .i64 (d : Int)] w (ReadPost ok pA (readT d r a).1 (readT d r a).2 w) := by
  induction d with
  | zero => exact read_zero
  | succ d ih => exact read_succ d (by omega) (ih (by omega))
end Go.Proofs.YthlmgbdknjilpaaGreat.Tower
namespace Go.Proofs.YthlmgbdknjilpaaGreat.Tower
open Go Go.RowKit Go.Proofs.YthlmgbdknjilpaaGreatW.PrintWords Go.Proofs.YthlmgbdknjilpaaGreatW.PrintLast Go.Proofs.YthlmgbdknjilpaaGreatW.PrintMore Go.Proofs.YthlmgbdknjilpaaGreat.Own Go.Proofs.YthlmgbdknjilpaaGreat.PAskKinds
set_option linter.unusedVariables false
set_option linter.unusedSimpArgs false
def Ws.read (x : Ws) : Sh × Ar := readT 40 (x.ar.way x.entry 0).1 (x.ar.way x.entry 0).2
structure WRead (ok okR okE : Nat → Prop) (p pA pR pE : Nat) (x : Ws) (w : World) (e : Ending) (w1 : World) : Prop where
  val : ∃ cs, e = .returned (.agg cs.toArray) ∧ kSh.FK w1 (fun k => w.heap.size ≤ k) x.read.1 cs
  out : ∃ ok1 okA1, WorldAt ok1 okA1 okR okE p pA pR pE { x with ar := x.read.2 } w1 ∧ Moves ok ok1 w w1
def TReadW1 : Bool × List (List Nat × List Nat) := (true, [([], []), ([0], [0]), ([1], [1]), ([2], [2]), ([], []), ([4], [4]), ([5], [5]), ([6], [6]), ([], []), ([8], [8]), ([9], [9]), ([10], [10]), ([7, 11], [7, 11]), ([3, 12, 12], [3, 12]), ([13, 13, 0, 1, 2, 3, 4, 5, 6, 7, 8, 9, 10, 11, 12, 13], [13])])
def BReadW1 : List Nat := [0, 1, 3, 7, 0, 16, 48, 112, 0, 256, 768, 1792, 4080, 8191, 16383]
theorem tabReadW1 : rtab .any (opsOf Tryz.f18 1) = TReadW1 := by kernel_rfl
theorem bitsReadW1 : waitsOk TReadW1.2 BReadW1 = true := by kernel_rfl
set_option maxHeartbeats 4000000 in
set_option maxRecDepth 100000 in
theorem readw_calls {ok okA okR okE : Nat → Prop} {p pA pR pE : Nat} {x : Ws} (w : World) (h : WorldAt ok okA okR okE p pA pR pE x w) (hf : x.ar.Fits) : Calls Tryz.prog 18 #[.pointer (some ⟨p, 0, none⟩)] w (WRead ok okR okE p pA pR pE x w) := by
  have W1 := Aside0.mk (h.step (w1 := w.alloc (.cells #[.bool false, .bool false, .slice none 0 0, .slice none 0 0, .slice none 0 0] 42)) (by simp) (fun k _ hk => Below.heap_alloc _ _ _ hk))
  have X1 := Aside0.mk (Mine.new (ok := ok) (fun k hk => h.lt k hk) (.cells #[.bool false, .bool false, .slice none 0 0, .slice none 0 0, .slice none 0 0] 42))
  have M1 := Aside0.mk ((Moves.refl ok w).alloc (.cells #[.bool false, .bool false, .slice none 0 0, .slice none 0 0, .slice none 0 0] 42))
  have HFI := Aside0.mk hf
  have HFW := Aside0.mk (hf.same (way_slots x.ar x.entry 0))
  clear h hf
  obtain ⟨q, hq⟩ : ∃ q, x.read = q := ⟨_, rfl⟩
  have HXR := Aside0.mk hq
  obtain ⟨s, aE⟩ := q
  have HQ : Aside0 (readT 40 (x.ar.way x.entry 0).1 (x.ar.way x.entry 0).2 = (s, aE)) := ⟨hq⟩
  clear hq
  go_enter Tryz.func18, Tryz.ntmps18
  go_upto_region 1 with fail
  generalize w.alloc (.cells #[.bool false, .bool false, .slice none 0 0, .slice none 0 0, .slice none 0 0] 42) = w1 at W1 X1 M1 ⊢
  generalize h2 : w.heap.size = b2 at X1 ⊢
  have E2 := Aside0.mk h2
  clear h2
  have HC := Aside0.mk (show w1.cell? ⟨p, 0, none⟩ = some (.pointer (some ⟨pA, 0, none⟩)) ∧ w1.cell? ⟨p, 5, none⟩ = some (.int .i64 x.entry) from ⟨(blk_cell (W1.out.box) 0).trans rfl, (blk_cell (W1.out.box) 5).trans rfl⟩)
  refine start_ (n := 15) (S := fun w' => w'.cell? ⟨p, 0, none⟩ = some (.pointer (some ⟨pA, 0, none⟩)) ∧ w'.cell? ⟨p, 5, none⟩ = some (.int .i64 x.entry)) (ds := [14]) #[N_,N_,N_,N_,N_,N_,N_,N_,N_,N_,N_,N_,N_,N_,N_] (by kernel_rfl) rfl rfl HC.out (fun hHeld => ?_); refine with_tabW tabReadW1 bitsReadW1 (fun HT_ HW_ => ?_)
  have W2 := Aside0.mk (W1.out.step (w1 := w1.drew) (Nat.le_refl _) (fun _ _ _ => rfl))
  have M2 := Aside0.mk M1.out.drew
  have X2 := Aside0.mk (X1.out.moves (Moves.drew (Moves.refl _ _)))
  have G2 : Aside0 (b2 < w1.drew.heap.size) := ⟨X1.out.lt⟩
  clear HC W1 M1 X1
  generalize w1.drew = w2 at W2 M2 X2 G2 hHeld ⊢
  refine pure_ (i := 0) (N := (some 3)) (v := ?_) (a' := ?_) #[Y_,N_,N_,N_,N_,N_,N_,N_,N_,N_,N_,N_,N_,N_,N_] rfl rfl (any_of HT_.out (by kernel_rfl)) (fun _ _ _ h => h) (Or.inl ⟨by rfl, ?_⟩) ?_ ?_
  rotate_left; · intro w'; go_simp; with_reducible rfl
  rotate_left; · simp only [Act.put, u1_, u2_, u3_, i64_w, i32_w]; rfl
  refine pure_ (i := 1) (N := (some 4)) (v := ?_) (a' := ?_) #[Y_,Y_,N_,N_,N_,N_,N_,N_,N_,N_,N_,N_,N_,N_,N_] rfl rfl (any_of HT_.out (by kernel_rfl)) (fun _ _ _ h => h) (Or.inl ⟨by rfl, ?_⟩) ?_ ?_
  rotate_left; · intro w'; go_simp; with_reducible rfl
  rotate_left; · simp only [Act.put, u1_, u2_, u3_, i64_w, i32_w]; rfl
  refine pure_ (i := 2) (N := (some 5)) (v := ?_) (a' := ?_) #[Y_,Y_,Y_,N_,N_,N_,N_,N_,N_,N_,N_,N_,N_,N_,N_] rfl rfl (any_of HT_.out (by kernel_rfl)) (fun _ _ _ h => h) (Or.inl ⟨by rfl, ?_⟩) ?_ ?_
  rotate_left; · intro w'; go_simp; with_reducible rfl
  rotate_left; · simp only [Act.put, u1_, u2_, u3_, i64_w, i32_w]; rfl
  refine take_ (i := 3) (N := (some 6)) (v := ?_) (a' := ?_) #[Y_,Y_,Y_,Y_,N_,N_,N_,N_,N_,N_,N_,N_,N_,N_,N_] rfl rfl (take_ofW HT_.out HW_.out (by kernel_rfl)) (fun _ _ _ h => h) (Or.inl ⟨by rfl, ?_⟩) hHeld ?_ ?_
  rotate_left; · rintro w' ⟨s0, s5⟩; go_simp; with_reducible rfl
  rotate_left; · simp only [Act.put, u1_, u2_, u3_, i64_w, i32_w]; rfl
  refine pure_ (i := 4) (N := (some 7)) (v := ?_) (a' := ?_) #[Y_,Y_,Y_,Y_,Y_,N_,N_,N_,N_,N_,N_,N_,N_,N_,N_] rfl rfl (any_of HT_.out (by kernel_rfl)) (fun _ _ _ h => h) (Or.inl ⟨by rfl, ?_⟩) ?_ ?_
  rotate_left; · intro w'; go_simp; with_reducible rfl
  rotate_left; · simp only [Act.put, u1_, u2_, u3_, i64_w, i32_w]; rfl
  refine pure_ (i := 5) (N := (some 8)) (v := ?_) (a' := ?_) #[Y_,Y_,Y_,Y_,Y_,Y_,N_,N_,N_,N_,N_,N_,N_,N_,N_] rfl rfl (any_of HT_.out (by kernel_rfl)) (fun _ _ _ h => h) (Or.inl ⟨by rfl, ?_⟩) ?_ ?_
  rotate_left; · intro w'; go_simp; with_reducible rfl
  rotate_left; · simp only [Act.put, u1_, u2_, u3_, i64_w, i32_w]; rfl
  refine pure_ (i := 6) (N := (some 9)) (v := ?_) (a' := ?_) #[Y_,Y_,Y_,Y_,Y_,Y_,Y_,N_,N_,N_,N_,N_,N_,N_,N_] rfl rfl (any_of HT_.out (by kernel_rfl)) (fun _ _ _ h => h) (Or.inl ⟨by rfl, ?_⟩) ?_ ?_
  rotate_left; · intro w'; go_simp; with_reducible rfl
  rotate_left; · simp only [Act.put, u1_, u2_, u3_, i64_w, i32_w]; rfl
  refine take_ (i := 7) (N := (some 10)) (v := ?_) (a' := ?_) #[Y_,Y_,Y_,Y_,Y_,Y_,Y_,Y_,N_,N_,N_,N_,N_,N_,N_] rfl rfl (take_ofW HT_.out HW_.out (by kernel_rfl)) (fun _ _ _ h => h) (Or.inl ⟨by rfl, ?_⟩) hHeld ?_ ?_
  rotate_left; · rintro w' ⟨s0, s5⟩; go_simp; with_reducible rfl
  rotate_left; · simp only [Act.put, u1_, u2_, u3_, i64_w, i32_w]; rfl
  refine pure_ (i := 8) (N := (some 11)) (v := ?_) (a' := ?_) #[Y_,Y_,Y_,Y_,Y_,Y_,Y_,Y_,Y_,N_,N_,N_,N_,N_,N_] rfl rfl (any_of HT_.out (by kernel_rfl)) (fun _ _ _ h => h) (Or.inl ⟨by rfl, ?_⟩) ?_ ?_
  rotate_left; · intro w'; go_simp; with_reducible rfl
  rotate_left; · simp only [Act.put, u1_, u2_, u3_, i64_w, i32_w]; rfl
  refine pure_ (i := 9) (N := (some 12)) (v := ?_) (a' := ?_) #[Y_,Y_,Y_,Y_,Y_,Y_,Y_,Y_,Y_,Y_,N_,N_,N_,N_,N_] rfl rfl (any_of HT_.out (by kernel_rfl)) (fun _ _ _ h => h) (Or.inl ⟨by rfl, ?_⟩) ?_ ?_
  rotate_left; · intro w'; go_simp; with_reducible rfl
  rotate_left; · simp only [Act.put, u1_, u2_, u3_, i64_w, i32_w]; rfl
  refine pure_ (i := 10) (N := (some 13)) (v := ?_) (a' := ?_) #[Y_,Y_,Y_,Y_,Y_,Y_,Y_,Y_,Y_,Y_,Y_,N_,N_,N_,N_] rfl rfl (any_of HT_.out (by kernel_rfl)) (fun _ _ _ h => h) (Or.inl ⟨by rfl, ?_⟩) ?_ ?_
  rotate_left; · intro w'; go_simp; with_reducible rfl
  rotate_left; · simp only [Act.put, u1_, u2_, u3_, i64_w, i32_w]; rfl
  refine take_ (i := 11) (N := (some 14)) (v := ?_) (a' := ?_) #[Y_,Y_,Y_,Y_,Y_,Y_,Y_,Y_,Y_,Y_,Y_,Y_,N_,N_,N_] rfl rfl (take_ofW HT_.out HW_.out (by kernel_rfl)) (fun _ _ _ h => h) (Or.inl ⟨by rfl, ?_⟩) hHeld ?_ ?_
  rotate_left; · rintro w' ⟨s0, s5⟩; go_simp; with_reducible rfl
  rotate_left; · simp only [Act.put, u1_, u2_, u3_, i64_w, i32_w]; rfl
  refine one_ (i := 12) (N := (some 15)) #[Y_,Y_,Y_,Y_,Y_,Y_,Y_,Y_,Y_,Y_,Y_,Y_,Y_,N_,N_] rfl rfl (one_of HT_.out (by kernel_rfl)) (by decide) (fun K_ hK => ?_)
  refine call_ 44 #[.pointer (some ⟨pA, 0, none⟩), .int .i64 x.entry, .int .i64 0] (by rfl) rfl ?hrun12 ?_
  (case hrun12 => first | (go_simp; done) | (go_simp; exact enters Tryz.func44 (by kernel_rfl) rfl _ _))
  refine (way_calls x.entry 0 w2 W2.out.ar HFI.out.slots).mono ?_
  rintro e w3 ⟨rfl, hA3, hM3⟩
  have W3 := Aside0.mk (W2.out.ar_moves hA3 hM3).1
  have N3 := Aside0.mk (W2.out.ar_moves hA3 hM3).2
  have M3 := Aside0.mk (M2.out.trans N3.out)
  have X3 := Aside0.mk (X2.out.moves N3.out)
  have G3 : Aside0 (b2 < w3.heap.size) := ⟨Nat.lt_of_lt_of_le G2.out hM3.size⟩
  clear hA3 hM3 W2 M2 X2 N3 G2
  generalize (x.ar.way x.entry 0).1 = xr at HFW HQ ⊢
  generalize (x.ar.way x.entry 0).2 = a3 at W3 HFW HQ ⊢
  refine ⟨_, rfl, ?_⟩
  refine hK.out _ _ ⟨(blk_cell (W3.out.box) 0).trans rfl, (blk_cell (W3.out.box) 5).trans rfl⟩ (fun hHeld => ?_)
  clear hK K_
  refine norm_ (a' := ?_) ?_ ?_
  rotate_left; · show Act.put _ (some 15) _ = _; simp only [Act.put, u1_, u2_, u3_, i64_w, i32_w]; rfl
  refine one_ (i := 13) (N := (some 16)) #[Y_,Y_,Y_,Y_,Y_,Y_,Y_,Y_,Y_,Y_,Y_,Y_,Y_,Y_,N_] rfl rfl (one_of HT_.out (by kernel_rfl)) (by decide) (fun K_ hK => ?_)
  refine call_ 43 #[.pointer (some ⟨pA, 0, none⟩), .int .i64 xr, .int .i64 ((40 : Nat) : Int)] (by rfl) rfl ?hrun13 ?_
  (case hrun13 => first | (go_simp; done) | (go_simp; exact enters Tryz.func43 (by kernel_rfl) rfl _ _))
  refine (read_calls 40 (by omega) _ pA a3 xr w3 W3.out.ar HFW.out).mono ?_
  rintro e w4 hE
  obtain ⟨cs, rfl, hfk⟩ := hE.out
  have W4 := Aside0.mk (W3.out.ar_moves hE.ar hE.moves).1
  have N4 := Aside0.mk (W3.out.ar_moves hE.ar hE.moves).2
  have M4 := Aside0.mk (M3.out.trans N4.out)
  have X4 := Aside0.mk (X3.out.moves N4.out)
  clear hE W3 M3 X3 N4
  rw [HQ.out] at hfk W4
  simp only at hfk W4
  obtain ⟨A2, c2, A3, c3, A4, c4, rfl, _⟩ := k42_openF hfk
  have F4 := Aside0.mk (Kd.FK_mono hfk (fun k hk => Nat.lt_of_lt_of_le G3.out hk : ∀ k, w3.heap.size ≤ k → b2 < k))
  clear hfk G3
  refine ⟨_, rfl, ?_⟩
  refine hK.out _ _ ⟨(blk_cell (W4.out.box) 0).trans rfl, (blk_cell (W4.out.box) 5).trans rfl⟩ (fun hHeld => ?_)
  clear hK K_
  refine norm_ (a' := ?_) ?_ ?_
  rotate_left; · show Act.put _ (some 16) _ = _; simp only [Act.put, u1_, u2_, u3_, i64_w, i32_w]; rfl
  refine last_ (i := 14) (N := none) #[Y_,Y_,Y_,Y_,Y_,Y_,Y_,Y_,Y_,Y_,Y_,Y_,Y_,Y_,Y_] rfl rfl (one_of HT_.out (by kernel_rfl)) (by decide) (fun K_ hK => ?_)
  refine skip_ (w1 := w4.setCells b2 0 [.bool s.f0, .bool s.f1, .slice A2 s.f2.length c2, .slice A3 s.f3.length c3, .slice A4 s.f4.length c4]) (by rfl) rfl ?h14 ?_
  (case h14 => exact exec_store _ [.bool s.f0, .bool s.f1, .slice A2 s.f2.length c2, .slice A3 s.f3.length c3, .slice A4 s.f4.length c4] rfl (by rfl) (by rfl) X4.out.1 rfl (by kernel_rfl) (by simp) (by intro u hu; simp only [List.mem_cons, List.not_mem_nil, or_false] at hu; rcases hu with rfl | rfl | rfl | rfl | rfl <;> rfl))
  refine hK.out _ _ ?_
  clear hK K_
  have W5 := Aside0.mk (W4.out.step (w1 := w4.setCells b2 0 [.bool s.f0, .bool s.f1, .slice A2 s.f2.length c2, .slice A3 s.f3.length c3, .slice A4 s.f4.length c4]) (by rw [(setCells_same b2 _ 0 w4).2.2.2]; exact Nat.le_refl _) (fun k hk _ => setCells_far _ _ k (fun e => X4.out.2 (e ▸ hk))))
  have F5 := Aside0.mk (Kd.FK_step (W1 := w4.setCells b2 0 [.bool s.f0, .bool s.f1, .slice A2 s.f2.length c2, .slice A3 s.f3.length c3, .slice A4 s.f4.length c4]) F4.out (fun k hk _ => setCells_far _ _ k (fun e => by omega)))
  have X5 := Aside0.mk (setCells_all (seg := [.bool s.f0, .bool s.f1, .slice A2 s.f2.length c2, .slice A3 s.f3.length c3, .slice A4 s.f4.length c4]) X4.out.1 rfl)
  have M5 := Aside0.mk (moves_cells M4.out (g := b2) (.inr (Nat.le_of_eq E2.out)) 0 [.bool s.f0, .bool s.f1, .slice A2 s.f2.length c2, .slice A3 s.f3.length c3, .slice A4 s.f4.length c4])
  clear W4 F4 X4 M4 hHeld
  generalize w4.setCells b2 0 [.bool s.f0, .bool s.f1, .slice A2 s.f2.length c2, .slice A3 s.f3.length c3, .slice A4 s.f4.length c4] = w5 at W5 F5 X5 M5 ⊢
  refine done_ (done_of HT_.out (by kernel_rfl)) ?_
  go_wp2_with fail
  (try simp only [Exit.inBlock, Exit.then])
  refine bodyPost_ret (results_c rfl _ _ b2 42 _ (0, 0) _ rfl X5.out Tryz.underlying42 rfl (by kernel_rfl)) rfl ?_
  refine ⟨⟨[.bool s.f0, .bool s.f1, .slice A2 s.f2.length c2, .slice A3 s.f3.length c3, .slice A4 s.f4.length c4], rfl, ?_⟩, _, okA, ?_, M5.out⟩
  · rw [HXR.out]
    exact Kd.FK_mono F5.out (fun k hk => by have := E2.out; omega)
  · rw [HXR.out]
    exact W5.out
structure KFacts (keys : List Int) (b0 : Int) (kf k k2 : Nat) (ys : List Pr2) (wd : Nat) (s : Sh) (m nodes : Int) (x0 : Ws) (a : Ar) (tt : Tb) (lo wdi en : Int) : Prop where
  rising : boscagelaw02_Rising.f kf keys = some ys
  len : ys.length ≤ 60
  wide : boscagelaw11_Wide.f b0 = some (wd : Int)
  w3 : 3 ≤ wd
  w8 : wd ≤ 8
  even : evenT ys wd = s
  many : boscagelaw11_Shape_Many.f k s.f0 s.f1 s.f2 s.f3 s.f4 = some m
  nodesEq : wrap64 (wrap64 (2 + m) + 5) = nodes
  n2 : 2 ≤ nodes
  n6 : nodes ≤ 65536
  new : ws0 (((wd + 1) / 2 : Nat) : Int) wd 2 nodes 4 = some x0
  plant : plantT s x0 = some (⟨a, tt, ⟨0, [-1, -1], [[], []]⟩, lo, wdi, en⟩ : Ws)
  good : Ws.Good (⟨a, tt, ⟨0, [-1, -1], [[], []]⟩, lo, wdi, en⟩ : Ws)
  good1 : Ws.Good (⟨a, tt, ⟨1, [-1, -1], [[], []]⟩, lo, wdi, en⟩ : Ws)
  read : (Ws.read (⟨a, tt, ⟨1, [-1, -1], [[], []]⟩, lo, wdi, en⟩ : Ws)).1 = s
  same : boscagelaw11_Same.f k2 s.f0 s.f1 s.f2 s.f3 s.f4 s.f0 s.f1 s.f2 s.f3 s.f4 = some true
theorem kanswer : ask_Answer.f 1000 [10, 0, 0, 0, 0] = some (10, false, 0, 0, [], false) := answer_code kindA (by decide)
theorem ksame : boscagelaw18_Same.f 1000 10 false 0 0 [] false 10 false 0 0 [] false = some true := same18_self _ _ _ _ _ _ (by decide)
def TKinds8 : Bool × List (List Nat × List Nat) := (true, [([], []), ([0], [0]), ([1], [1]), ([2, 1], [1, 2]), ([1, 3], [1, 3]), ([4, 1], [4]), ([5], [5]), ([6, 5, 5], [5, 6]), ([7, 7, 5], [5, 7]), ([5], [5]), ([8, 9, 8, 5], [5, 8, 9]), ([5, 10], [5, 10]), ([11, 10], [11]), ([12], [12]), ([13, 12, 12], [12, 13]), ([12], [12]), ([14, 15, 14, 12], [12, 14, 15]), ([12, 16], [12, 16]), ([17, 16], [17]), ([18], [18]), ([19, 18], [18, 19]), ([20, 18], [18, 20]), ([21, 18], [18, 21]), ([22, 18, 18], [18, 22]), ([23, 18], [18, 23]), ([18, 24], [18, 24]), ([25, 23, 0, 1, 2, 3, 4, 5, 6, 7, 8, 9, 10, 11, 12, 13, 14, 15, 16, 17, 18, 19, 20, 21, 22, 23, 24, 25], [25])])
def BKinds8 : List Nat := [0, 1, 3, 7, 15, 31, 63, 127, 255, 63, 1023, 2047, 4095, 8191, 16383, 8191, 65535, 131071, 262143, 524287, 1048575, 2097151, 4194303, 8388607, 16777215, 33554431, 67108863]
theorem tabKinds8 : rtab .any (opsOf Tryz.f5 8) = TKinds8 := by kernel_rfl
theorem bitsKinds8 : waitsOk TKinds8.2 BKinds8 = true := by kernel_rfl
theorem KO {D : Nat → Prop} {w : World} {s : Sh} {A2 A3 A4 : Option Addr} {c2 c3 c4 : Nat} (h : kSh.FK w D s [.bool s.f0, .bool s.f1, .slice A2 s.f2.length c2, .slice A3 s.f3.length c3, .slice A4 s.f4.length c4]) :
    s.f2.length ≤ c2 ∧ kP.C w A2 s.f2.length s.f2 ∧ s.f3.length ≤ c3 ∧ (Kd.int .i64).C w A3 s.f3.length s.f3 ∧ s.f4.length ≤ c4 ∧ kSh.C w A4 s.f4.length s.f4 := by
  obtain ⟨B2, d2, B3, d3, B4, d4, e, l2, F2, l3, F3, l4, F4⟩ := k42_openF h
  simp only [List.cons.injEq, Value.slice.injEq, and_true, true_and] at e
  obtain ⟨⟨rfl, rfl⟩, ⟨rfl, rfl⟩, ⟨rfl, rfl⟩⟩ := e
  exact ⟨l2, Kd.F_now F2, l3, Kd.F_now F3, l4, Kd.F_now F4⟩
set_option maxHeartbeats 4000000 in
set_option maxRecDepth 100000 in
theorem kinds_walk (A : Option Addr) (c : Nat) (keys : List Int) (b0 kind key upto value : Int) (w : World) (hC : (Kd.int .i64).C w A keys.length keys) (hc : keys.length ≤ c) (h30 : keys.length ≤ 30) (hk : 12 ≤ kind)
    {kf k k2 : Nat} {ys : List Pr2} {wd : Nat} {s : Sh} {m nodes : Int} {x0 : Ws} {a : Ar} {tt : Tb} {lo wdi en : Int} (hf : KFacts keys b0 kf k k2 ys wd s m nodes x0 a tt lo wdi en) :
    Calls Tryz.prog 5 #[.slice A keys.length c, .int .u8 b0, .agg #[.int .u8 kind, .int .i64 key, .int .i64 upto, .int .i64 value]] w fun e w1 => e = .returned (.bool true) ∧ Below w.heap.size w w1 := by
  have HF := Aside0.mk hf
  have HCK := Aside0.mk (And.intro hC hc)
  have HK := Aside0.mk hk
  have d30 : decide ((keys.length : Int) > 30) = false := decide_eq_false (by omega)
  have d31 : decide (30 < keys.length) = false := decide_eq_false (by omega)
  have d12 : decide (kind < 12) = false := decide_eq_false (by omega)
  have O1 := Aside0.mk (Mine.new (ok := fun _ => False) (w := w) (fun q hq => hq.elim) (.cells #[.int .u8 kind, .int .i64 key, .int .i64 upto, .int .i64 value] 38))
  have B1 := Aside0.mk (below_alloc (Below.refl w.heap.size w) (.cells #[.int .u8 kind, .int .i64 key, .int .i64 upto, .int .i64 value] 38))
  clear hf hC hc h30 hk
  go_enter Tryz.func5, Tryz.ntmps5
  go_upto_region 1 with fail
  generalize w.alloc (.cells #[.int .u8 kind, .int .i64 key, .int .i64 upto, .int .i64 value] 38) = w1 at O1 B1 ⊢
  generalize h5 : w.heap.size = b5 at O1 ⊢
  have E5 := Aside0.mk h5
  clear h5
  go_upto_region 3 with (go_at_call 9; refine (awake19 _).mono ?_; rintro e w2 ⟨rfl, hb⟩; have O2 := Aside0.mk (O1.out.moves (Moves.of_below _ hb)); have B2 := Aside0.mk (below_then B1.out B1.out.size hb); clear hb)
  have k0 := (blk_cell O2.out.1 0).trans (rfl : _ = some (Value.int .u8 kind))
  have k1 := (blk_cell O2.out.1 1).trans (rfl : _ = some (Value.int .i64 key))
  have k2_ := (blk_cell O2.out.1 2).trans (rfl : _ = some (Value.int .i64 upto))
  have k3 := (blk_cell O2.out.1 3).trans (rfl : _ = some (Value.int .i64 value))
  go_upto_region 5 with fail
  clear k0 k1 k2_ k3 d30 d31 d12 O1 B1
  go_upto_region 6 with (go_at_call 13; refine (clean_calls kf k A c keys ys b0 wd 2 5 4 m nodes x0 (⟨a, tt, ⟨0, [-1, -1], [[], []]⟩, lo, wdi, en⟩ : Ws) s _ (Kd.C_below HCK.out.1 B2.out) HCK.out.2 HF.out.rising HF.out.len HF.out.wide HF.out.w3 HF.out.w8 HF.out.even HF.out.many HF.out.nodesEq (by omega) (by omega) HF.out.n2 HF.out.n6 (by omega) (by omega) HF.out.new HF.out.plant).mono ?_; rintro e w3 hE; obtain ⟨ok, p, cs, rfl, hW, hfk, hfr, hB⟩ := hE.out; obtain ⟨A2, c2, A3, c3, A4, c4, rfl, _⟩ := k42_openF hfk; have W3 := Aside0.mk hW; have F3 := Aside0.mk hfk; have N3 := Aside0.mk hfr; have S3 := Aside0.mk hB.size; have B3 := Aside0.mk (below_then B2.out B2.out.size hB); have O3 := Aside0.mk (O2.out.moves (Moves.of_below _ hB)); clear hE hW hfk hfr hB)
  have hlt3 : ∀ q, ok q → q < w3.heap.size := (worldShared p).lt W3.out
  have hlt5 : b5 < w2.heap.size := O2.out.lt
  have Y4 := Aside0.mk (Mine.new (ok := ok) hlt3 (.cells #[.bool s.f0, .bool s.f1, .slice A2 s.f2.length c2, .slice A3 s.f3.length c3, .slice A4 s.f4.length c4] 42))
  have O4 := Aside0.mk (O3.out.alloc (.cells #[.bool s.f0, .bool s.f1, .slice A2 s.f2.length c2, .slice A3 s.f3.length c3, .slice A4 s.f4.length c4] 42))
  have W4 := Aside0.mk ((worldShared p).step W3.out (w1 := w3.alloc (.cells #[.bool s.f0, .bool s.f1, .slice A2 s.f2.length c2, .slice A3 s.f3.length c3, .slice A4 s.f4.length c4] 42)) (by simp) (fun q _ hlt => Below.heap_alloc _ _ _ hlt))
  have B4 := Aside0.mk (below_then B3.out B3.out.size (below_alloc (Below.refl w3.heap.size w3) (.cells #[.bool s.f0, .bool s.f1, .slice A2 s.f2.length c2, .slice A3 s.f3.length c3, .slice A4 s.f4.length c4] 42)))
  have F4 := Aside0.mk (FK_below F3.out (Nat.le_refl _) (below_alloc (Below.refl w3.heap.size w3) (.cells #[.bool s.f0, .bool s.f1, .slice A2 s.f2.length c2, .slice A3 s.f3.length c3, .slice A4 s.f4.length c4] 42)))
  have Z4 : Aside0 (∀ q, ok q → b5 < q ∧ q < w3.heap.size) := ⟨fun q hq => ⟨Nat.lt_of_lt_of_le hlt5 (N3.out q hq), hlt3 q hq⟩⟩
  clear hlt3 hlt5 N3 W3 F3 B3 O3 O2 B2 S3
  generalize hw4 : w3.alloc (.cells #[.bool s.f0, .bool s.f1, .slice A2 s.f2.length c2, .slice A3 s.f3.length c3, .slice A4 s.f4.length c4] 42) = w4 at Y4 O4 W4 B4 F4 ⊢
  have L4 : Aside0 (w3.heap.size < w4.heap.size) := ⟨by rw [← hw4]; simp⟩
  clear hw4
  generalize w3.heap.size = b8 at Y4 Z4 F4 L4 ⊢
  have k0 := (blk_cell O4.out.1 0).trans (rfl : _ = some (Value.int .u8 kind))
  have k1 := (blk_cell O4.out.1 1).trans (rfl : _ = some (Value.int .i64 key))
  have k2_ := (blk_cell O4.out.1 2).trans (rfl : _ = some (Value.int .i64 upto))
  have k3 := (blk_cell O4.out.1 3).trans (rfl : _ = some (Value.int .i64 value))
  go_upto_region 7 with (go_at_call 14; refine (asknew_calls p 1 ⟨kind, key, upto, value⟩ _).mono ?_; rintro e w5 hE; obtain ⟨tb, bw, bm, bo, rfl, h1, h2, h3, h4, h5, h6, h7, ht, hs, hb⟩ := hE.out; have L2 := Aside0.mk (And.intro h1 (And.intro h2 (And.intro h3 h4))); have N2 := Aside0.mk (And.intro h5 (And.intro h6 h7)); have T5 := Aside0.mk ht; have S5 := Aside0.mk hs; have B5 := Aside0.mk hb; clear hE h1 h2 h3 h4 h5 h6 h7 ht hs hb)
  clear k0 k1 k2_ k3 O4
  have hW5 : shW p (⟨a, tt, ⟨0, [-1, -1], [[], []]⟩, lo, wdi, en⟩ : Ws) ok w5 := ⟨(worldShared p).step W4.out B5.out.size (fun q _ hlt => B5.out.block q hlt), HF.out.good⟩
  obtain ⟨l1, l2, l3, l4⟩ := L2.out
  obtain ⟨n1, n2, n3⟩ := N2.out
  have hz4 := L4.out
  have HID : Aside0 (Idle (shW p) tb (askWork bw bm bo) (fun q => q = tb ∨ ok q) (⟨a, tt, ⟨0, [-1, -1], [[], []]⟩, lo, wdi, en⟩ : Ws) (thOf [] 0 false) w5) := ⟨⟨fun q => q = tb, ok, fun _ => Iff.rfl, fun q hq h => by have := (Z4.out q h).2; omega, T5.out, hW5⟩⟩
  have hno : ∀ b, w4.heap.size ≤ b → tb ≠ b → ¬ (b = tb ∨ ok b) := fun b hb hn h => h.elim (fun e => hn e.symm) (fun h1 => by have := (Z4.out b h1).2; omega)
  have HBX : Aside0 (AskBx p 1 ⟨kind, key, upto, value⟩ bw bm bo (fun q => q = tb ∨ ok q) w5) := ⟨⟨⟨S5.out.hw.1, hno bw l2 n1⟩, ⟨S5.out.hm.1, hno bm l3 n2⟩, ⟨S5.out.ho.1, hno bo l4 n3⟩⟩⟩
  have HB5 := Aside0.mk (below_then B4.out B4.out.size B5.out)
  have HO5 : Aside0 (∀ q, (q = tb ∨ ok q) → w.heap.size ≤ q) := ⟨fun q hq => hq.elim (fun e => by have := B4.out.size; omega) (fun h => by have := (Z4.out q h).1; have := E5.out; omega)⟩
  have Y5 : Aside0 (Mine (fun q => q = tb ∨ ok q) w5 b8 (.cells #[.bool s.f0, .bool s.f1, .slice A2 s.f2.length c2, .slice A3 s.f3.length c3, .slice A4 s.f4.length c4] 42 (0, 0))) := ⟨blk_below Y4.out.1 B5.out, fun h => h.elim (fun e => by omega) Y4.out.2⟩
  have F5 := Aside0.mk (Kd.FK_mono (FK_below F4.out (Nat.le_refl _) B5.out) (fun q hq => (fun h => h.elim (fun e => by have := hq.2; omega) hq.1.1.2) : ∀ q, ((w2.heap.size ≤ q ∧ ¬ ok q) ∧ q < b8) ∧ q < w4.heap.size → ¬ (q = tb ∨ ok q)))
  clear hW5 l1 l2 l3 l4 n1 n2 n3 hz4 hno W4 B4 L2 N2 T5 S5 B5 Y4 F4 L4 Z4
  obtain ⟨res, hres, hmap⟩ := Option.map_eq_some_iff.1 (congrFun (congrFun (congrFun (congrFun (congrFun kind_runs a) tt) lo) wdi) en)
  obtain ⟨o3, n3, x3, log3⟩ := res
  injection hmap with hm1 hm2
  injection hm2 with hm2 hm3
  simp only at hm1 hm2 hm3
  subst hm1
  subst hm2
  subst hm3
  have HRS := Aside0.mk hres
  clear hres
  go_upto_region 8 with (go_at_call 15; refine (kind_alone p tb 1 kind key upto value HK.out bw bm bo _ (⟨a, tt, ⟨0, [-1, -1], [[], []]⟩, lo, wdi, en⟩ : Ws) [] 0 false _ 9 HID.out (by simp) HBX.out _ HRS.out).mono ?_; rintro e w6 hE; obtain ⟨ok3, hm3, _, at3, sp3, hi3, v, rfl, hv⟩ := hE.out; have M6 := Aside0.mk hm3; have I6 := Aside0.mk hi3; rw [show ((3000 - ((some [10, 0, 0, 0, 0], 2992, (⟨a, tt, ⟨1, [-1, -1], [[], []]⟩, lo, wdi, en⟩ : Ws), log3) : Option (List Int) × Nat × Ws × List Int).snd.fst : Nat) : Int) = 8 from rfl]; clear hE hm3 hi3 hv HID HBX HRS)
  obtain ⟨okT, okS, hiff, _, ht6, hW6⟩ := I6.out.out
  obtain ⟨okA, okR, okE, pA, pR, pE, hw6⟩ := hW6.1
  have hsub : ∀ q, okS q → ok3 q := fun q hq => (hiff q).2 (.inr hq)
  have T6 := Aside0.mk ht6
  have W6 := Aside0.mk hw6
  have B6 := Aside0.mk (moves_outer M6.out HB5.out HO5.out)
  have HOS : Aside0 (∀ q, okS q → w.heap.size ≤ q) := ⟨fun q hq => (M6.out.fresh q (hsub q hq)).elim (HO5.out q) (fun h => Nat.le_trans HB5.out.size h)⟩
  have Y6 : Aside0 (Mine okS w6 b8 (.cells #[.bool s.f0, .bool s.f1, .slice A2 s.f2.length c2, .slice A3 s.f3.length c3, .slice A4 s.f4.length c4] 42 (0, 0))) := ⟨(Y5.out.moves M6.out).1, fun h => (Y5.out.moves M6.out).2 (hsub _ h)⟩
  have K6 : Aside0 (kSh.FK w6 (fun q => ¬ okS q) s [.bool s.f0, .bool s.f1, .slice A2 s.f2.length c2, .slice A3 s.f3.length c3, .slice A4 s.f4.length c4]) := ⟨Kd.FK_mono (FK_moves F5.out M6.out) (fun q hq h => hq (hsub q h))⟩
  clear hiff ht6 hW6 hw6 hsub M6 I6 HB5 HO5 Y5 F5
  have HC := Aside0.mk (show w6.cell? ⟨b8, 0, none⟩ = some (.bool s.f0) ∧ w6.cell? ⟨b8, 1, none⟩ = some (.bool s.f1) ∧ w6.cell? ⟨b8, 2, none⟩ = some (.slice A2 s.f2.length c2) ∧ w6.cell? ⟨b8, 3, none⟩ = some (.slice A3 s.f3.length c3) ∧ w6.cell? ⟨b8, 4, none⟩ = some (.slice A4 s.f4.length c4) ∧ w6.cell? ⟨p, 2, none⟩ = some (.pointer (some ⟨pE, 0, none⟩)) from ⟨(blk_cell (Y6.out.1) 0).trans rfl, (blk_cell (Y6.out.1) 1).trans rfl, (blk_cell (Y6.out.1) 2).trans rfl, (blk_cell (Y6.out.1) 3).trans rfl, (blk_cell (Y6.out.1) 4).trans rfl, (blk_cell (W6.out.box) 2).trans rfl⟩)
  refine start_ (n := 27) (S := fun w' => w'.cell? ⟨b8, 0, none⟩ = some (.bool s.f0) ∧ w'.cell? ⟨b8, 1, none⟩ = some (.bool s.f1) ∧ w'.cell? ⟨b8, 2, none⟩ = some (.slice A2 s.f2.length c2) ∧ w'.cell? ⟨b8, 3, none⟩ = some (.slice A3 s.f3.length c3) ∧ w'.cell? ⟨b8, 4, none⟩ = some (.slice A4 s.f4.length c4) ∧ w'.cell? ⟨p, 2, none⟩ = some (.pointer (some ⟨pE, 0, none⟩))) (ds := []) #[N_,N_,N_,N_,N_,N_,N_,N_,N_,N_,N_,N_,N_,N_,N_,N_,N_,N_,N_,N_,N_,N_,N_,N_,N_,N_,N_] (by kernel_rfl) rfl rfl HC.out (fun hHeld => ?_); refine with_tabW tabKinds8 bitsKinds8 (fun HT_ HW_ => ?_)
  have hbd : Below w6.heap.size w6 w6.drew := below_drew (Below.refl _ _)
  have T7 := Aside0.mk (T6.out.step hbd.size (fun q _ hlt => hbd.block q hlt))
  have W7 := Aside0.mk (W6.out.step hbd.size (fun q _ hlt => hbd.block q hlt))
  have B7 := Aside0.mk (below_then B6.out B6.out.size hbd)
  have Y7 := Aside0.mk (Y6.out.moves (Moves.of_below _ hbd))
  have K7 := Aside0.mk (FK_moves K6.out (Moves.of_below okS hbd))
  clear hbd T6 W6 B6 Y6 K6
  clear HC
  generalize w6.drew = w7 at T7 W7 B7 Y7 K7 hHeld ⊢
  refine pure_ (i := 0) (N := (some 42)) (v := ?_) (a' := ?_) #[Y_,N_,N_,N_,N_,N_,N_,N_,N_,N_,N_,N_,N_,N_,N_,N_,N_,N_,N_,N_,N_,N_,N_,N_,N_,N_,N_] rfl rfl (any_of HT_.out (by kernel_rfl)) (fun _ _ _ h => h) (Or.inl ⟨by rfl, ?_⟩) ?_ ?_
  rotate_left; · intro w'; go_simp; with_reducible rfl
  rotate_left; · simp only [Act.put, u1_, u2_, u3_, i64_w, i32_w]; rfl
  refine pure_ (i := 1) (N := (some 43)) (v := ?_) (a' := ?_) #[Y_,Y_,N_,N_,N_,N_,N_,N_,N_,N_,N_,N_,N_,N_,N_,N_,N_,N_,N_,N_,N_,N_,N_,N_,N_,N_,N_] rfl rfl (any_of HT_.out (by kernel_rfl)) (fun _ _ _ h => h) (Or.inl ⟨by rfl, ?_⟩) ?_ ?_
  rotate_left; · intro w'; go_simp; with_reducible rfl
  rotate_left; · simp only [Act.put, u1_, u2_, u3_, i64_w, i32_w]; rfl
  refine pure_ (i := 2) (N := (some 44)) (v := ?_) (a' := ?_) #[Y_,Y_,Y_,N_,N_,N_,N_,N_,N_,N_,N_,N_,N_,N_,N_,N_,N_,N_,N_,N_,N_,N_,N_,N_,N_,N_,N_] rfl rfl (any_of HT_.out (by kernel_rfl)) (fun _ _ _ h => h) (Or.inl ⟨by rfl, ?_⟩) ?_ ?_
  rotate_left; · intro w'; go_simp; with_reducible rfl
  rotate_left; · simp only [Act.put, u1_, u2_, u3_, i64_w, i32_w]; rfl
  refine pure_ (i := 3) (N := (some 45)) (v := ?_) (a' := ?_) #[Y_,Y_,Y_,Y_,N_,N_,N_,N_,N_,N_,N_,N_,N_,N_,N_,N_,N_,N_,N_,N_,N_,N_,N_,N_,N_,N_,N_] rfl rfl (any_of HT_.out (by kernel_rfl)) (fun _ _ _ h => h) (Or.inl ⟨by rfl, ?_⟩) ?_ ?_
  rotate_left; · intro w'; go_simp; with_reducible rfl
  rotate_left; · simp only [Act.put, u1_, u2_, u3_, i64_w, i32_w]; rfl
  refine pure_ (i := 4) (N := (some 46)) (v := ?_) (a' := ?_) #[Y_,Y_,Y_,Y_,Y_,N_,N_,N_,N_,N_,N_,N_,N_,N_,N_,N_,N_,N_,N_,N_,N_,N_,N_,N_,N_,N_,N_] rfl rfl (any_of HT_.out (by kernel_rfl)) (fun _ _ _ h => h) (Or.inl ⟨by rfl, ?_⟩) ?_ ?_
  rotate_left; · intro w'; go_simp; with_reducible rfl
  rotate_left; · simp only [Act.put, u1_, u2_, u3_, i64_w, i32_w]; rfl
  refine pure_ (i := 5) (N := (some 47)) (v := ?_) (a' := ?_) #[Y_,Y_,Y_,Y_,Y_,Y_,N_,N_,N_,N_,N_,N_,N_,N_,N_,N_,N_,N_,N_,N_,N_,N_,N_,N_,N_,N_,N_] rfl rfl (any_of HT_.out (by kernel_rfl)) (fun _ _ _ h => h) (Or.inl ⟨by rfl, ?_⟩) ?_ ?_
  rotate_left; · intro w'; go_simp; with_reducible rfl
  rotate_left; · simp only [Act.put, u1_, u2_, u3_, i64_w, i32_w]; rfl
  refine pure_ (i := 6) (N := (some 48)) (v := ?_) (a' := ?_) #[Y_,Y_,Y_,Y_,Y_,Y_,Y_,N_,N_,N_,N_,N_,N_,N_,N_,N_,N_,N_,N_,N_,N_,N_,N_,N_,N_,N_,N_] rfl rfl (any_of HT_.out (by kernel_rfl)) (fun _ _ _ h => h) (Or.inl ⟨by rfl, ?_⟩) ?_ ?_
  rotate_left; · intro w'; go_simp; with_reducible rfl
  rotate_left; · simp only [Act.put, u1_, u2_, u3_, i64_w, i32_w]; rfl
  refine pure_ (i := 9) (N := (some 51)) (v := ?_) (a' := ?_) #[Y_,Y_,Y_,Y_,Y_,Y_,Y_,N_,N_,Y_,N_,N_,N_,N_,N_,N_,N_,N_,N_,N_,N_,N_,N_,N_,N_,N_,N_] rfl rfl (any_of HT_.out (by kernel_rfl)) (fun _ _ _ h => h) (Or.inl ⟨by rfl, ?_⟩) ?_ ?_
  rotate_left; · intro w'; go_simp; with_reducible rfl
  rotate_left; · simp only [Act.put, u1_, u2_, u3_, i64_w, i32_w]; rfl
  refine one_ (i := 7) (N := (some 49)) #[Y_,Y_,Y_,Y_,Y_,Y_,Y_,Y_,N_,Y_,N_,N_,N_,N_,N_,N_,N_,N_,N_,N_,N_,N_,N_,N_,N_,N_,N_] rfl rfl (one_of HT_.out (by kernel_rfl)) (by decide) (fun K_ hK => ?_)
  refine call_ 16 #[.pointer (some ⟨tb, 0, none⟩)] (by rfl) rfl ?hrun7 ?_
  (case hrun7 => first | (go_simp; done) | (go_simp; exact enters Tryz.func16 (by kernel_rfl) rfl _ _))
  refine (out_calls w7 T7.out rfl (by simp)).mono ?_
  rintro e w8 ⟨vo, rfl, hv, hb⟩
  obtain ⟨Ao, co, rfl⟩ := Kd.R_slice hv
  have HO := Aside0.mk (Kd.R_reads' hv).2
  have T8 := Aside0.mk (T7.out.step hb.size (fun q _ hlt => hb.block q hlt))
  have W8 := Aside0.mk (W7.out.step hb.size (fun q _ hlt => hb.block q hlt))
  have B8 := Aside0.mk (below_then B7.out B7.out.size hb)
  have Y8 := Aside0.mk (Y7.out.moves (Moves.of_below _ hb))
  have K8 := Aside0.mk (FK_moves K7.out (Moves.of_below okS hb))
  clear hb T7 W7 B7 Y7 K7
  clear hv
  refine ⟨_, rfl, ?_⟩
  refine hK.out _ _ ⟨(blk_cell (Y8.out.1) 0).trans rfl, (blk_cell (Y8.out.1) 1).trans rfl, (blk_cell (Y8.out.1) 2).trans rfl, (blk_cell (Y8.out.1) 3).trans rfl, (blk_cell (Y8.out.1) 4).trans rfl, (blk_cell (W8.out.box) 2).trans rfl⟩ (fun hHeld => ?_)
  clear hK K_
  refine norm_ (a' := ?_) ?_ ?_
  rotate_left; · show Act.put _ (some 49) _ = _; simp only [Act.put, u1_, u2_, u3_, i64_w, i32_w]; rfl
  refine one_ (i := 8) (N := (some 50)) #[Y_,Y_,Y_,Y_,Y_,Y_,Y_,Y_,Y_,Y_,N_,N_,N_,N_,N_,N_,N_,N_,N_,N_,N_,N_,N_,N_,N_,N_,N_] rfl rfl (one_of HT_.out (by kernel_rfl)) (by decide) (fun K_ hK => ?_)
  refine call_ 11 #[.slice Ao ([10, 0, 0, 0, 0] : List Int).length co] (by rfl) rfl ?hrun8 ?_
  (case hrun8 => first | (go_simp; done) | (go_simp; exact enters Tryz.func11 (by kernel_rfl) rfl _ _))
  refine (ask_Answer.calls 1000 Ao co [10, 0, 0, 0, 0] 10 false 0 0 [] false w8 HO.out.2 HO.out.1 kanswer).mono ?_
  rintro e w9 ⟨va, rfl, hv, hb⟩
  obtain ⟨Aa, ca, rfl⟩ := Kd.R_slice hv
  have HA := Aside0.mk (Kd.R_reads' hv).2
  have T9 := Aside0.mk (T8.out.step hb.size (fun q _ hlt => hb.block q hlt))
  have W9 := Aside0.mk (W8.out.step hb.size (fun q _ hlt => hb.block q hlt))
  have B9 := Aside0.mk (below_then B8.out B8.out.size hb)
  have Y9 := Aside0.mk (Y8.out.moves (Moves.of_below _ hb))
  have K9 := Aside0.mk (FK_moves K8.out (Moves.of_below okS hb))
  clear hb T8 W8 B8 Y8 K8
  clear hv HO
  refine ⟨_, rfl, ?_⟩
  refine hK.out _ _ ⟨(blk_cell (Y9.out.1) 0).trans rfl, (blk_cell (Y9.out.1) 1).trans rfl, (blk_cell (Y9.out.1) 2).trans rfl, (blk_cell (Y9.out.1) 3).trans rfl, (blk_cell (Y9.out.1) 4).trans rfl, (blk_cell (W9.out.box) 2).trans rfl⟩ (fun hHeld => ?_)
  clear hK K_
  refine norm_ (a' := ?_) ?_ ?_
  rotate_left; · show Act.put _ (some 50) _ = _; simp only [Act.put, u1_, u2_, u3_, i64_w, i32_w]; rfl
  refine one_ (i := 10) (N := (some 52)) #[Y_,Y_,Y_,Y_,Y_,Y_,Y_,Y_,Y_,Y_,Y_,N_,N_,N_,N_,N_,N_,N_,N_,N_,N_,N_,N_,N_,N_,N_,N_] rfl rfl (one_of HT_.out (by kernel_rfl)) (by decide) (fun K_ hK => ?_)
  refine call_ 12 #[.agg #[.int .i64 10, .bool false, .int .i64 0, .int .i64 0, .slice Aa ([] : List Pr2).length ca, .bool false], .agg #[.int .i64 10, .bool false, .int .i64 0, .int .i64 0, .slice none 0 0, .bool false]] (by rfl) rfl ?hrun10 ?_
  (case hrun10 => first | (go_simp; done) | (go_simp; exact enters Tryz.func12 (by kernel_rfl) rfl _ _))
  refine (boscagelaw18_Same.calls 1000 10 false 0 0 Aa ca [] false 10 false 0 0 none 0 [] false true w9 HA.out.2 HA.out.1 (Kd.F_now (Kd.F_nil _ _ (fun _ => False))) (Nat.le_refl _) ksame).mono ?_
  rintro e w10 ⟨rfl, hb⟩
  have T10 := Aside0.mk (T9.out.step hb.size (fun q _ hlt => hb.block q hlt))
  have W10 := Aside0.mk (W9.out.step hb.size (fun q _ hlt => hb.block q hlt))
  have B10 := Aside0.mk (below_then B9.out B9.out.size hb)
  have Y10 := Aside0.mk (Y9.out.moves (Moves.of_below _ hb))
  have K10 := Aside0.mk (FK_moves K9.out (Moves.of_below okS hb))
  clear hb T9 W9 B9 Y9 K9
  clear HA
  refine ⟨_, rfl, ?_⟩
  refine hK.out _ _ ⟨(blk_cell (Y10.out.1) 0).trans rfl, (blk_cell (Y10.out.1) 1).trans rfl, (blk_cell (Y10.out.1) 2).trans rfl, (blk_cell (Y10.out.1) 3).trans rfl, (blk_cell (Y10.out.1) 4).trans rfl, (blk_cell (W10.out.box) 2).trans rfl⟩ (fun hHeld => ?_)
  clear hK K_
  refine norm_ (a' := ?_) ?_ ?_
  rotate_left; · show Act.put _ (some 52) _ = _; simp only [Act.put, u1_, u2_, u3_, i64_w, i32_w]; rfl
  refine pure_ (i := 11) (N := (some 53)) (v := ?_) (a' := ?_) #[Y_,Y_,Y_,Y_,Y_,Y_,Y_,Y_,Y_,Y_,Y_,Y_,N_,N_,N_,N_,N_,N_,N_,N_,N_,N_,N_,N_,N_,N_,N_] rfl rfl (any_of HT_.out (by kernel_rfl)) (fun _ _ _ h => h) (Or.inl ⟨by rfl, ?_⟩) ?_ ?_
  rotate_left; · intro w'; go_simp; with_reducible rfl
  rotate_left; · simp only [Act.put, u1_, u2_, u3_, i64_w, i32_w]; rfl
  refine pure_ (i := 12) (N := (some 54)) (v := ?_) (a' := ?_) #[Y_,Y_,Y_,Y_,Y_,Y_,Y_,Y_,Y_,Y_,Y_,Y_,Y_,N_,N_,N_,N_,N_,N_,N_,N_,N_,N_,N_,N_,N_,N_] rfl rfl (any_of HT_.out (by kernel_rfl)) (fun _ _ _ h => h) (Or.inl ⟨by rfl, ?_⟩) ?_ ?_
  rotate_left; · intro w'; go_simp; with_reducible rfl
  rotate_left; · simp only [Act.put, u1_, u2_, u3_, i64_w, i32_w]; rfl
  refine pure_ (i := 13) (N := (some 55)) (v := ?_) (a' := ?_) #[Y_,Y_,Y_,Y_,Y_,Y_,Y_,Y_,Y_,Y_,Y_,Y_,Y_,Y_,N_,N_,N_,N_,N_,N_,N_,N_,N_,N_,N_,N_,N_] rfl rfl (any_of HT_.out (by kernel_rfl)) (fun _ _ _ h => h) (Or.inl ⟨by rfl, ?_⟩) ?_ ?_
  rotate_left; · intro w'; go_simp; with_reducible rfl
  rotate_left; · simp only [Act.put, u1_, u2_, u3_, i64_w, i32_w]; rfl
  refine take_ (i := 15) (N := (some 57)) (v := ?_) (a' := ?_) #[Y_,Y_,Y_,Y_,Y_,Y_,Y_,Y_,Y_,Y_,Y_,Y_,Y_,Y_,N_,Y_,N_,N_,N_,N_,N_,N_,N_,N_,N_,N_,N_] rfl rfl (take_ofW HT_.out HW_.out (by kernel_rfl)) (fun _ _ _ h => h) (Or.inl ⟨by rfl, ?_⟩) hHeld ?_ ?_
  rotate_left; · rintro w' ⟨s0, s1, s2, s3, s4, s5⟩; go_simp; with_reducible rfl
  rotate_left; · simp only [Act.put, u1_, u2_, u3_, i64_w, i32_w]; rfl
  refine one_ (i := 14) (N := (some 56)) #[Y_,Y_,Y_,Y_,Y_,Y_,Y_,Y_,Y_,Y_,Y_,Y_,Y_,Y_,Y_,Y_,N_,N_,N_,N_,N_,N_,N_,N_,N_,N_,N_] rfl rfl (one_of HT_.out (by kernel_rfl)) (by decide) (fun K_ hK => ?_)
  refine call_ 18 #[.pointer (some ⟨p, 0, none⟩)] (by rfl) rfl ?hrun14 ?_
  (case hrun14 => first | (go_simp; done) | (go_simp; exact enters Tryz.func18 (by kernel_rfl) rfl _ _))
  refine (readw_calls w10 W10.out HF.out.good1.ar.fits).mono ?_
  rintro e w11 hE
  obtain ⟨ok4, okA4, hw4, hm4⟩ := hE.out
  obtain ⟨cs, rfl, hfk⟩ := hE.val
  rw [HF.out.read] at hfk
  have W11 := Aside0.mk hw4
  have B11 := Aside0.mk (moves_outer hm4 B10.out HOS.out)
  have Y11 := Aside0.mk (Y10.out.moves hm4)
  have K11 := Aside0.mk (FK_moves K10.out hm4)
  obtain ⟨B2, d2, B3, d3, B4, d4, rfl, l2, F2, l3, F3, l4, F4⟩ := k42_openF hfk
  have G2 := Aside0.mk (And.intro l2 (And.intro (Kd.F_now F2) (And.intro l3 (And.intro (Kd.F_now F3) (And.intro l4 (Kd.F_now F4))))))
  clear hE hw4 hm4 hfk l2 F2 l3 F3 l4 F4 T10 W10 B10 Y10 K10
  refine ⟨_, rfl, ?_⟩
  refine hK.out _ _ ⟨(blk_cell (Y11.out.1) 0).trans rfl, (blk_cell (Y11.out.1) 1).trans rfl, (blk_cell (Y11.out.1) 2).trans rfl, (blk_cell (Y11.out.1) 3).trans rfl, (blk_cell (Y11.out.1) 4).trans rfl, (blk_cell (W11.out.box) 2).trans rfl⟩ (fun hHeld => ?_)
  clear hK K_
  refine norm_ (a' := ?_) ?_ ?_
  rotate_left; · show Act.put _ (some 56) _ = _; simp only [Act.put, u1_, u2_, u3_, i64_w, i32_w]; rfl
  refine one_ (i := 16) (N := (some 58)) #[Y_,Y_,Y_,Y_,Y_,Y_,Y_,Y_,Y_,Y_,Y_,Y_,Y_,Y_,Y_,Y_,Y_,N_,N_,N_,N_,N_,N_,N_,N_,N_,N_] rfl rfl (one_of HT_.out (by kernel_rfl)) (by decide) (fun K_ hK => ?_)
  refine call_ 17 #[.agg #[.bool s.f0, .bool s.f1, .slice B2 s.f2.length d2, .slice B3 s.f3.length d3, .slice B4 s.f4.length d4], .agg #[.bool s.f0, .bool s.f1, .slice A2 s.f2.length c2, .slice A3 s.f3.length c3, .slice A4 s.f4.length c4]] (by rfl) rfl ?hrun16 ?_
  (case hrun16 => first | (go_simp; done) | (go_simp; exact enters Tryz.func17 (by kernel_rfl) rfl _ _))
  refine (boscagelaw11_Same.calls k2 s.f0 s.f1 B2 d2 s.f2 B3 d3 s.f3 B4 d4 s.f4 s.f0 s.f1 A2 c2 s.f2 A3 c3 s.f3 A4 c4 s.f4 true w11 G2.out.2.1 G2.out.1 G2.out.2.2.2.1 G2.out.2.2.1 G2.out.2.2.2.2.2 G2.out.2.2.2.2.1 (KO K11.out).2.1 (KO K11.out).1 (KO K11.out).2.2.2.1 (KO K11.out).2.2.1 (KO K11.out).2.2.2.2.2 (KO K11.out).2.2.2.2.1 HF.out.same).mono ?_
  rintro e w12 ⟨rfl, hb⟩
  have W12 := Aside0.mk (W11.out.step hb.size (fun q _ hlt => hb.block q hlt))
  have B12 := Aside0.mk (below_then B11.out B11.out.size hb)
  have Y12 := Aside0.mk (Y11.out.moves (Moves.of_below _ hb))
  clear hb W11 B11 Y11 K11 G2
  refine ⟨_, rfl, ?_⟩
  refine hK.out _ _ ⟨(blk_cell (Y12.out.1) 0).trans rfl, (blk_cell (Y12.out.1) 1).trans rfl, (blk_cell (Y12.out.1) 2).trans rfl, (blk_cell (Y12.out.1) 3).trans rfl, (blk_cell (Y12.out.1) 4).trans rfl, (blk_cell (W12.out.box) 2).trans rfl⟩ (fun hHeld => ?_)
  clear hK K_
  refine norm_ (a' := ?_) ?_ ?_
  rotate_left; · show Act.put _ (some 58) _ = _; simp only [Act.put, u1_, u2_, u3_, i64_w, i32_w]; rfl
  refine pure_ (i := 17) (N := (some 59)) (v := ?_) (a' := ?_) #[Y_,Y_,Y_,Y_,Y_,Y_,Y_,Y_,Y_,Y_,Y_,Y_,Y_,Y_,Y_,Y_,Y_,Y_,N_,N_,N_,N_,N_,N_,N_,N_,N_] rfl rfl (any_of HT_.out (by kernel_rfl)) (fun _ _ _ h => h) (Or.inl ⟨by rfl, ?_⟩) ?_ ?_
  rotate_left; · intro w'; go_simp; with_reducible rfl
  rotate_left; · simp only [Act.put, u1_, u2_, u3_, i64_w, i32_w]; rfl
  refine pure_ (i := 18) (N := (some 60)) (v := ?_) (a' := ?_) #[Y_,Y_,Y_,Y_,Y_,Y_,Y_,Y_,Y_,Y_,Y_,Y_,Y_,Y_,Y_,Y_,Y_,Y_,Y_,N_,N_,N_,N_,N_,N_,N_,N_] rfl rfl (any_of HT_.out (by kernel_rfl)) (fun _ _ _ h => h) (Or.inl ⟨by rfl, ?_⟩) ?_ ?_
  rotate_left; · intro w'; go_simp; with_reducible rfl
  rotate_left; · simp only [Act.put, u1_, u2_, u3_, i64_w, i32_w]; rfl
  refine pure_ (i := 19) (N := (some 61)) (v := ?_) (a' := ?_) #[Y_,Y_,Y_,Y_,Y_,Y_,Y_,Y_,Y_,Y_,Y_,Y_,Y_,Y_,Y_,Y_,Y_,Y_,Y_,Y_,N_,N_,N_,N_,N_,N_,N_] rfl rfl (any_of HT_.out (by kernel_rfl)) (fun _ _ _ h => h) (Or.inl ⟨by rfl, ?_⟩) ?_ ?_
  rotate_left; · intro w'; go_simp; with_reducible rfl
  rotate_left; · simp only [Act.put, u1_, u2_, u3_, i64_w, i32_w]; rfl
  refine pure_ (i := 20) (N := (some 62)) (v := ?_) (a' := ?_) #[Y_,Y_,Y_,Y_,Y_,Y_,Y_,Y_,Y_,Y_,Y_,Y_,Y_,Y_,Y_,Y_,Y_,Y_,Y_,Y_,Y_,N_,N_,N_,N_,N_,N_] rfl rfl (any_of HT_.out (by kernel_rfl)) (fun _ _ _ h => h) (Or.inl ⟨by rfl, ?_⟩) ?_ ?_
  rotate_left; · intro w'; go_simp; with_reducible rfl
  rotate_left; · simp only [Act.put, u1_, u2_, u3_, i64_w, i32_w]; rfl
  refine pure_ (i := 21) (N := (some 63)) (v := ?_) (a' := ?_) #[Y_,Y_,Y_,Y_,Y_,Y_,Y_,Y_,Y_,Y_,Y_,Y_,Y_,Y_,Y_,Y_,Y_,Y_,Y_,Y_,Y_,Y_,N_,N_,N_,N_,N_] rfl rfl (any_of HT_.out (by kernel_rfl)) (fun _ _ _ h => h) (Or.inl ⟨by rfl, ?_⟩) ?_ ?_
  rotate_left; · intro w'; go_simp; with_reducible rfl
  rotate_left; · simp only [Act.put, u1_, u2_, u3_, i64_w, i32_w]; rfl
  refine take_ (i := 22) (N := (some 64)) (v := ?_) (a' := ?_) #[Y_,Y_,Y_,Y_,Y_,Y_,Y_,Y_,Y_,Y_,Y_,Y_,Y_,Y_,Y_,Y_,Y_,Y_,Y_,Y_,Y_,Y_,Y_,N_,N_,N_,N_] rfl rfl (take_ofW HT_.out HW_.out (by kernel_rfl)) (fun _ _ _ h => h) (Or.inl ⟨by rfl, ?_⟩) hHeld ?_ ?_
  rotate_left; · rintro w' ⟨s0, s1, s2, s3, s4, s5⟩; go_simp; with_reducible rfl
  rotate_left; · simp only [Act.put, u1_, u2_, u3_, i64_w, i32_w]; rfl
  refine one_ (i := 23) (N := (some 65)) #[Y_,Y_,Y_,Y_,Y_,Y_,Y_,Y_,Y_,Y_,Y_,Y_,Y_,Y_,Y_,Y_,Y_,Y_,Y_,Y_,Y_,Y_,Y_,Y_,N_,N_,N_] rfl rfl (one_of HT_.out (by kernel_rfl)) (by decide) (fun K_ hK => ?_)
  refine call_ 19 #[.pointer (some ⟨pE, 0, none⟩)] (by rfl) rfl ?hrun23 ?_
  (case hrun23 => first | (go_simp; done) | (go_simp; exact enters Tryz.func19 (by kernel_rfl) rfl _ _))
  refine (ep_now w12 W12.out.ep).mono ?_
  rintro e w13 ⟨rfl, rfl⟩
  refine ⟨_, rfl, ?_⟩
  refine hK.out _ _ ⟨(blk_cell (Y12.out.1) 0).trans rfl, (blk_cell (Y12.out.1) 1).trans rfl, (blk_cell (Y12.out.1) 2).trans rfl, (blk_cell (Y12.out.1) 3).trans rfl, (blk_cell (Y12.out.1) 4).trans rfl, (blk_cell (W12.out.box) 2).trans rfl⟩ (fun hHeld => ?_)
  clear hK K_
  refine norm_ (a' := ?_) ?_ ?_
  rotate_left; · show Act.put _ (some 65) _ = _; simp only [Act.put, u1_, u2_, u3_, i64_w, i32_w]; rfl
  refine pure_ (i := 24) (N := (some 66)) (v := ?_) (a' := ?_) #[Y_,Y_,Y_,Y_,Y_,Y_,Y_,Y_,Y_,Y_,Y_,Y_,Y_,Y_,Y_,Y_,Y_,Y_,Y_,Y_,Y_,Y_,Y_,Y_,Y_,N_,N_] rfl rfl (any_of HT_.out (by kernel_rfl)) (fun _ _ _ h => h) (Or.inl ⟨by rfl, ?_⟩) ?_ ?_
  rotate_left; · intro w'; go_simp; with_reducible rfl
  rotate_left; · simp only [Act.put, u1_, u2_, u3_, i64_w, i32_w]; rfl
  refine pure_ (i := 25) (N := (some 67)) (v := ?_) (a' := ?_) #[Y_,Y_,Y_,Y_,Y_,Y_,Y_,Y_,Y_,Y_,Y_,Y_,Y_,Y_,Y_,Y_,Y_,Y_,Y_,Y_,Y_,Y_,Y_,Y_,Y_,Y_,N_] rfl rfl (any_of HT_.out (by kernel_rfl)) (fun _ _ _ h => h) (Or.inl ⟨by rfl, ?_⟩) ?_ ?_
  rotate_left; · intro w'; go_simp; with_reducible rfl
  rotate_left; · simp only [Act.put, u1_, u2_, u3_, i64_w, i32_w]; rfl
  refine pure_ (i := 26) (N := (some 6)) (v := ?_) (a' := ?_) #[Y_,Y_,Y_,Y_,Y_,Y_,Y_,Y_,Y_,Y_,Y_,Y_,Y_,Y_,Y_,Y_,Y_,Y_,Y_,Y_,Y_,Y_,Y_,Y_,Y_,Y_,Y_] rfl rfl (any_of HT_.out (by kernel_rfl)) (fun _ _ _ h => h) (Or.inl ⟨by rfl, ?_⟩) ?_ ?_
  rotate_left; · intro w'; go_simp; with_reducible rfl
  rotate_left; · simp only [Act.put, u1_, u2_, u3_, i64_w, i32_w]; rfl
  refine done_ (done_of HT_.out (by kernel_rfl)) ?_
  go_wp2_with fail
  go_ret
  exact ⟨rfl, B12.out⟩
set_option maxHeartbeats 4000000 in
set_option maxRecDepth 100000 in
theorem kinds_short (A : Option Addr) (c : Nat) (keys : List Int) (b0 kind key upto value : Int) (w : World) (h : 30 < keys.length ∨ kind < 12) :
    Calls Tryz.prog 5 #[.slice A keys.length c, .int .u8 b0, .agg #[.int .u8 kind, .int .i64 key, .int .i64 upto, .int .i64 value]] w fun e w1 => e = .returned (.bool true) ∧ Below w.heap.size w w1 := by
  have O1 := Aside0.mk (Mine.new (ok := fun _ => False) (w := w) (fun q hq => hq.elim) (.cells #[.int .u8 kind, .int .i64 key, .int .i64 upto, .int .i64 value] 38))
  have B1 := Aside0.mk (below_alloc (Below.refl w.heap.size w) (.cells #[.int .u8 kind, .int .i64 key, .int .i64 upto, .int .i64 value] 38))
  go_enter Tryz.func5, Tryz.ntmps5
  go_upto_region 1 with fail
  generalize w.alloc (.cells #[.int .u8 kind, .int .i64 key, .int .i64 upto, .int .i64 value] 38) = w1 at O1 B1 ⊢
  generalize h5 : w.heap.size = b5 at O1 ⊢
  clear h5
  go_upto_region 3 with (go_at_call 9; refine (awake19 _).mono ?_; rintro e w2 ⟨rfl, hb⟩; have O2 := Aside0.mk (O1.out.moves (Moves.of_below _ hb)); have B2 := Aside0.mk (below_then B1.out B1.out.size hb); clear hb)
  have k0 := (blk_cell O2.out.1 0).trans (rfl : _ = some (Value.int .u8 kind))
  clear O1 B1
  by_cases h30 : 30 < keys.length
  · have d30 : decide ((keys.length : Int) > 30) = true := decide_eq_true (by omega)
    have d31 : decide (30 < keys.length) = true := decide_eq_true h30
    clear h
    go_wp2_with fail
    go_ret
    exact ⟨rfl, B2.out⟩
  · have d30 : decide ((keys.length : Int) > 30) = false := decide_eq_false (by omega)
    have d31 : decide (30 < keys.length) = false := decide_eq_false h30
    have d12 : decide (kind < 12) = true := decide_eq_true (h.resolve_left h30)
    clear h h30
    go_wp2_with fail
    go_ret
    exact ⟨rfl, B2.out⟩
end Go.Proofs.YthlmgbdknjilpaaGreat.Tower
