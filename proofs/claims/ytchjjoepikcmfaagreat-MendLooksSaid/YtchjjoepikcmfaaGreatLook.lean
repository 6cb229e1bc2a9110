/- (*Arena).Look, walked. -/
import Derived.Test.YtchjjoepikcmfaaGreatWay
import Derived.Test.YtchjjoepikcmfaaGreatWTab
namespace Go.Proofs.YtchjjoepikcmfaaGreat.Tower
open Go Go.RowKit Go.Proofs.YtchjjoepikcmfaaGreatW.PrintWords Go.Proofs.YtchjjoepikcmfaaGreatW.PrintLast Go.Proofs.YtchjjoepikcmfaaGreatW.PrintMore Go.Proofs.YtchjjoepikcmfaaGreat.Own
set_option linter.unusedVariables false
set_option linter.unusedSimpArgs false

theorem IsArena.step {ok : Nat → Prop} {pA : Nat} {a : Ar} {w w1 : World} (h : IsArena ok pA a w) (hs : w.heap.size ≤ w1.heap.size) (hm : ∀ k, ok k → k < w.heap.size → w1.heap[k]? = w.heap[k]?) : IsArena ok pA a w1 := by
  obtain ⟨sv, fv, lv, ρ, h⟩ := h
  exact ⟨sv, fv, lv, ρ, h.step hs hm⟩
theorem results_c {P : Program} {fn : Func} {p : Tmp} {ty : TypeId} (h : fn.results = #[.cell p ty]) (tmps : Array Value) (w : World) (g : Nat) (t : TypeId) (cs : Array Value) (fr : Nat × Nat) (d : TypeDesc)
    (hp : tmps.getD p undef = .pointer (some ⟨g, 0, none⟩)) (hg : w.heap[g]? = some (.cells cs t fr))
    (hu : P.underlying ty = some d) (hd : (match d with | .struct _ | .array _ _ => true | _ => false) = true) (hi : (P.info? ty).map (·.size) = some cs.size) :
    (results fn tmps).run P w = .ok (.agg cs) w := by
  have hp' : tmps[p]?.getD undef = .pointer (some ⟨g, 0, none⟩) := by simpa using hp
  simp [results, h, hp', asAddr, run_loadVar_row w g t ty cs fr d hg hu hd hi]
/-- Five stores into a box. -/
def set5 (w : World) (b : Nat) (v0 v1 v2 v3 v4 : Value) : World := ((((w.setCell ⟨b, 0, none⟩ v0).setCell ⟨b, 1, none⟩ v1).setCell ⟨b, 2, none⟩ v2).setCell ⟨b, 3, none⟩ v3).setCell ⟨b, 4, none⟩ v4
theorem set5_far (w : World) (b : Nat) (v0 v1 v2 v3 v4 : Value) (k : Nat) (hk : k ≠ b) : (set5 w b v0 v1 v2 v3 v4).heap[k]? = w.heap[k]? :=
  (Below.heap_setCell _ ⟨b, 4, none⟩ v4 k hk).trans ((Below.heap_setCell _ ⟨b, 3, none⟩ v3 k hk).trans ((Below.heap_setCell _ ⟨b, 2, none⟩ v2 k hk).trans ((Below.heap_setCell _ ⟨b, 1, none⟩ v1 k hk).trans (Below.heap_setCell _ ⟨b, 0, none⟩ v0 k hk))))
theorem set5_size (w : World) (b : Nat) (v0 v1 v2 v3 v4 : Value) : (set5 w b v0 v1 v2 v3 v4).heap.size = w.heap.size := by simp [set5, World.setCell]
theorem set5_box {w : World} {b t : Nat} {u0 u1 u2 u3 u4 : Value} (h : w.heap[b]? = some (.cells #[u0, u1, u2, u3, u4] t (0, 0))) (v0 v1 v2 v3 v4 : Value) : (set5 w b v0 v1 v2 v3 v4).heap[b]? = some (.cells #[v0, v1, v2, v3, v4] t (0, 0)) :=
  blk_set (blk_set (blk_set (blk_set (blk_set h 0 v0) 1 v1) 2 v2) 3 v3) 4 v4
theorem set5_moves {ok ok1 : Nat → Prop} {w0 w : World} (h : Moves ok ok1 w0 w) {b : Nat} (hb : w0.heap.size ≤ b) (v0 v1 v2 v3 v4 : Value) : Moves ok ok1 w0 (set5 w b v0 v1 v2 v3 v4) :=
  ((((h.set (p := ⟨b, 0, none⟩) (.inr hb) v0).set (p := ⟨b, 1, none⟩) (.inr hb) v1).set (p := ⟨b, 2, none⟩) (.inr hb) v2).set (p := ⟨b, 3, none⟩) (.inr hb) v3).set (p := ⟨b, 4, none⟩) (.inr hb) v4

def nd0 : Nd := ⟨false, false, [], [], []⟩
def Ar.look (a : Ar) (r : Int) : Nd × Ar :=
  match a.idx r with
  | none => (nd0, a.fault)
  | some j => match a.slots[j]? with
    | none => (nd0, a)
    | some s => (s.node, a)

/-- A node that is handed back: its rows are new since N. -/
structure NdNew (N : Nat) (n : Nd) (v : Value) (w : World) : Prop where
  out : ∃ p k y, v = .agg #[.bool n.inner, .bool n.tagged, p, k, y] ∧ kPair.R 89 w N (fun q => N ≤ q) p n.pairs ∧ (Kd.int .i64).R 2 w N (fun q => N ≤ q) k n.keys ∧ (Kd.int .i64).R 64 w N (fun q => N ≤ q) y n.ways
structure LookPost (ok : Nat → Prop) (pA : Nat) (n : Nd) (a1 : Ar) (w : World) (e : Ending) (w1 : World) : Prop where
  val : ∃ v, e = .returned v ∧ NdNew w.heap.size n v w1
  ar : IsArena ok pA a1 w1
  moves : Moves ok ok w w1

def TLook5 : Bool × List (List Nat × List Nat) := (true, [([], []), ([0], [0]), ([1], [1]), ([], []), ([3], [3]), ([4], [4]), ([5, 2], [5]), ([], []), ([7], [7]), ([8], [8]), ([9, 6], [9]), ([6, 10], [6, 10]), ([0, 1, 2, 3, 4, 5, 7, 8, 9], []), ([12, 2, 10, 0, 1, 2, 3, 4, 5, 7, 8, 9], [2, 12]), ([0, 1, 2, 3, 4, 5, 6, 7, 8, 9, 10, 11, 12, 13], []), ([14, 11, 13, 0, 1, 2, 3, 4, 5, 6, 7, 8, 9, 10, 11, 12, 13], [11, 14])])
def BLook5 : List Nat := [0, 1, 3, 0, 8, 24, 63, 0, 128, 384, 1023, 2047, 959, 6143, 16383, 32767]
theorem tabLook5 : rtab .any (opsOf Tryz.f87 5) = TLook5 := by kernel_rfl
theorem bitsLook5 : waitsOk TLook5.2 BLook5 = true := by kernel_rfl
set_option maxHeartbeats 2000000 in
set_option maxRecDepth 100000 in
theorem look_miss {ok : Nat → Prop} {pA : Nat} {a : Ar} (r : Int) (w : World) (h : IsArena ok pA a w) (hl : a.slots.length < 1000000) (hx : a.idx r = none) :
    Calls Tryz.prog 87 #[.pointer (some ⟨pA, 0, none⟩), .int .i64 r] w (LookPost ok pA nd0 a.fault w) := by
  obtain ⟨sv, fv, lv, ρ, h⟩ := h
  have h1 := h.step (w1 := w.alloc (.cells #[.bool false, .bool false, .slice none 0 0, .slice none 0 0, .slice none 0 0] 29)) (by simp) (fun k _ hlt => Below.heap_alloc _ _ _ hlt)
  have HA := Aside0.mk (at_calls r _ h1 hl)
  have HF := Aside0.mk (fault_is h1)
  have HX := Aside0.mk hx
  have hB := Aside0.mk (blk_far (blk_new w (.cells #[.bool false, .bool false, .slice none 0 0, .slice none 0 0, .slice none 0 0] 29)) (p := ⟨pA, 4, none⟩) (Nat.ne_of_gt (h.lt pA h.own)) (.int .i64 (wrap64 (a.faults + 1))))
  have HM := Aside0.mk ((Moves.refl ok w).alloc (.cells #[.bool false, .bool false, .slice none 0 0, .slice none 0 0, .slice none 0 0] 29))
  have HN : Aside0 (¬ ok w.heap.size) := ⟨fun hk => by have := h.lt _ hk; omega⟩
  clear h hx h1
  go_enter Tryz.func87, Tryz.ntmps87
  go_upto_region 1 with fail
  generalize hW : w.alloc (.cells #[.bool false, .bool false, .slice none 0 0, .slice none 0 0, .slice none 0 0] 29) = w1 at HA HF hB HM ⊢
  go_upto_region 3 with (go_at_call 100; refine HA.out.mono ?_; rintro e w2 ⟨_, hm⟩; obtain ⟨rfl, rfl⟩ := hm HX.out; clear hm)
  have HSZ : Aside0 (w.heap.size ≤ w1.heap.size) := ⟨HM.out.size⟩
  have HM2 := Aside0.mk (HM.out.trans HF.out.2)
  have HI2 := Aside0.mk HF.out.1
  have k0 := (blk_cell hB.out 0).trans (rfl : _ = some (Value.bool false))
  have k1 := (blk_cell hB.out 1).trans (rfl : _ = some (Value.bool false))
  have k2 := (blk_cell hB.out 2).trans (rfl : _ = some (Value.slice none 0 0))
  have k3 := (blk_cell hB.out 3).trans (rfl : _ = some (Value.slice none 0 0))
  have k4 := (blk_cell hB.out 4).trans (rfl : _ = some (Value.slice none 0 0))
  have z0 := blk_frozen hB.out 0
  have z1 := blk_frozen hB.out 1
  have z2 := blk_frozen hB.out 2
  have z3 := blk_frozen hB.out 3
  have z4 := blk_frozen hB.out 4
  clear HF HM hW
  generalize w1.setCell ⟨pA, 4, none⟩ (.int .i64 (wrap64 (a.faults + 1))) = w2 at hB HM2 HI2 k0 k1 k2 k3 k4 z0 z1 z2 z3 z4 ⊢
  go_wp2_with fail
  show bodyPost _ _ _ _ _ (set5 w2 w.heap.size (.bool false) (.bool false) (.slice none 0 0) (.slice none 0 0) (.slice none 0 0))
  refine bodyPost_ret (results_c rfl _ _ w.heap.size 29 _ (0, 0) _ rfl (set5_box hB.out _ _ _ _ _) Tryz.underlying29 rfl (by kernel_rfl)) rfl ?_
  refine ⟨⟨_, rfl, ⟨_, _, _, rfl, Kd.R_nil _ _ _ _ _, Kd.R_nil _ _ _ _ _, Kd.R_nil _ _ _ _ _⟩⟩, HI2.out.step (by rw [set5_size]; exact Nat.le_refl _) (fun k hk _ => set5_far _ _ _ _ _ _ _ k (fun e => HN.out (e ▸ hk))), set5_moves HM2.out (Nat.le_refl _) _ _ _ _ _⟩

set_option maxHeartbeats 2000000 in
set_option maxRecDepth 100000 in
theorem look_hit {ok : Nat → Prop} {pA : Nat} {a : Ar} (r : Int) (j : Nat) (s : Sl) (w : World) (h : IsArena ok pA a w) (hl : a.slots.length < 1000000) (hx : a.idx r = some j) (hs : a.slots[j]? = some s)
    (hp : s.node.pairs.length < 1000000) (hk : s.node.keys.length < 1000000) (hy : s.node.ways.length < 1000000) :
    Calls Tryz.prog 87 #[.pointer (some ⟨pA, 0, none⟩), .int .i64 r] w (LookPost ok pA s.node a w) := by
  obtain ⟨sv, fv, lv, ρ, h⟩ := h
  have h1 := h.step (w1 := w.alloc (.cells #[.bool false, .bool false, .slice none 0 0, .slice none 0 0, .slice none 0 0] 29)) (by simp) (fun k _ hlt => Below.heap_alloc _ _ _ hlt)
  have HA := Aside0.mk (at_calls r _ h1 hl)
  have HX := Aside0.mk hx
  have HL := Aside0.mk h.lt
  have HI := Aside0.mk h1
  have hB := Aside0.mk (blk_new w (.cells #[.bool false, .bool false, .slice none 0 0, .slice none 0 0, .slice none 0 0] 29))
  have HM := Aside0.mk ((Moves.refl ok w).alloc (.cells #[.bool false, .bool false, .slice none 0 0, .slice none 0 0, .slice none 0 0] 29))
  have HN : Aside0 (¬ ok w.heap.size) := ⟨fun hk => by have := h.lt _ hk; omega⟩
  obtain ⟨⟨Ap, cp, ep, hcp, hfp⟩, ⟨Ak, ck, ek, hck, hfk⟩, ⟨Ay, cy, ey, hcy, hfy⟩⟩ := h1.node j s hs
  obtain ⟨ad, cap, rfl⟩ := Kd.R_slice h1.rows
  obtain ⟨hn, g, rfl, hg, hρ, hcc, hfz⟩ := h1.cells hs
  have q0 := hcc 0 _ rfl
  have q1 := hcc 1 _ rfl
  have q2 := hcc 2 _ rfl
  have q3 := hcc 3 _ rfl
  have q4 := hcc 4 _ rfl
  rw [ep] at q2
  rw [ek] at q3
  rw [ey] at q4
  rw [Nat.add_zero] at q0
  have HFp := Aside0.mk hfp
  have HFk := Aside0.mk hfk
  have HFy := Aside0.mk hfy
  clear h h1 hx hcc hfz hs hfp hfk hfy
  go_enter Tryz.func87, Tryz.ntmps87
  go_upto_region 1 with fail
  generalize w.alloc (.cells #[.bool false, .bool false, .slice none 0 0, .slice none 0 0, .slice none 0 0] 29) = w1 at HA HI hB HM HFp HFk HFy q0 q1 q2 q3 q4 ⊢
  go_upto_region 5 with (go_at_call 100; refine HA.out.mono ?_; rintro e w2 ⟨hm, _⟩; obtain ⟨g1, n1, cap1, e1, rfl, rfl⟩ := hm j HX.out; injection e1 with e1 _ _; injection e1 with e1; injection e1 with e1 _ _; subst e1; clear hm)
  have n0_ := Aside0.mk (HI.out.step (w1 := w2.alloc (.cells #[.bool s.node.inner, .bool s.node.tagged, .slice Ap s.node.pairs.length cp, .slice Ak s.node.keys.length ck, .slice Ay s.node.ways.length cy] 29)) (by simp) (fun k _ hlt => Below.heap_alloc _ _ _ hlt))
  have n1_ := Aside0.mk (blk_alloc hB.out (.cells #[.bool s.node.inner, .bool s.node.tagged, .slice Ap s.node.pairs.length cp, .slice Ak s.node.keys.length ck, .slice Ay s.node.ways.length cy] 29))
  have n2_ := Aside0.mk (HM.out.alloc (.cells #[.bool s.node.inner, .bool s.node.tagged, .slice Ap s.node.pairs.length cp, .slice Ak s.node.keys.length ck, .slice Ay s.node.ways.length cy] 29))
  have n3_ := Aside0.mk (Kd.F_alloc HFp.out (.cells #[.bool s.node.inner, .bool s.node.tagged, .slice Ap s.node.pairs.length cp, .slice Ak s.node.keys.length ck, .slice Ay s.node.ways.length cy] 29))
  have n4_ := Aside0.mk (Kd.F_alloc HFk.out (.cells #[.bool s.node.inner, .bool s.node.tagged, .slice Ap s.node.pairs.length cp, .slice Ak s.node.keys.length ck, .slice Ay s.node.ways.length cy] 29))
  have n5_ := Aside0.mk (Kd.F_alloc HFy.out (.cells #[.bool s.node.inner, .bool s.node.tagged, .slice Ap s.node.pairs.length cp, .slice Ak s.node.keys.length ck, .slice Ay s.node.ways.length cy] 29))
  have n6_ := Aside0.mk (blk_new w2 (.cells #[.bool s.node.inner, .bool s.node.tagged, .slice Ap s.node.pairs.length cp, .slice Ak s.node.keys.length ck, .slice Ay s.node.ways.length cy] 29))
  have hb6 : Aside0 (w.heap.size < w2.heap.size) := ⟨blk_lt hB.out⟩
  clear HI hB HM HFp HFk HFy q0 q1 q2 q3 q4 HA
  generalize w2.alloc (.cells #[.bool s.node.inner, .bool s.node.tagged, .slice Ap s.node.pairs.length cp, .slice Ak s.node.keys.length ck, .slice Ay s.node.ways.length cy] 29) = w3 at n0_ n1_ n2_ n3_ n4_ n5_ n6_ ⊢
  generalize w2.heap.size = b6 at n6_ hb6 ⊢
  refine start_ (n := 16) (S := fun w' => w'.cell? ⟨b6, 2, none⟩ = some (.slice Ap s.node.pairs.length cp) ∧ w'.cell? ⟨b6, 3, none⟩ = some (.slice Ak s.node.keys.length ck) ∧ w'.cell? ⟨b6, 4, none⟩ = some (.slice Ay s.node.ways.length cy)) (ds := [13, 15]) #[false, false, false, false, false, false, false, false, false, false, false, false, false, false, false, false] (by kernel_rfl) rfl rfl ⟨(blk_cell n6_.out 2).trans rfl, (blk_cell n6_.out 3).trans rfl, (blk_cell n6_.out 4).trans rfl⟩ (fun hHeld => ?_); refine with_tabW tabLook5 bitsLook5 (fun HT_ HW_ => ?_)
  have n0_ := Aside0.mk (n0_.out.step (w1 := w3.drew) (Nat.le_refl _) (fun _ _ _ => rfl))
  have n2_ := Aside0.mk n2_.out.drew
  have n3_ := Aside0.mk (Kd.F_drew n3_.out)
  have n4_ := Aside0.mk (Kd.F_drew n4_.out)
  have n5_ := Aside0.mk (Kd.F_drew n5_.out)
  have n1_ := Aside0.mk (blk_drew n1_.out)
  have n6_ := Aside0.mk (blk_drew n6_.out)
  generalize World.drew _ = w3 at n0_ n1_ n2_ n3_ n4_ n5_ n6_ hHeld ⊢
  refine pure_ (i := 0) (N := (some 17)) (v := ?_) (a' := ?_) #[true, false, false, false, false, false, false, false, false, false, false, false, false, false, false, false] rfl rfl (any_of HT_.out (by kernel_rfl)) (fun _ _ _ h => h) (Or.inl ⟨by rfl, ?_⟩) ?_ ?_
  rotate_left
  · intro w'
    go_simp
    with_reducible rfl
  rotate_left
  · simp only [Act.put, List.setIfInBounds_toArray, List.set_cons_zero, List.set_cons_succ, i64_w, i32_w]
    rfl
  refine take_ (i := 1) (N := (some 18)) (v := ?_) (a' := ?_) #[true, true, false, false, false, false, false, false, false, false, false, false, false, false, false, false] rfl rfl (take_ofW HT_.out HW_.out (by kernel_rfl)) (fun _ _ _ h => h) (Or.inl ⟨by rfl, ?_⟩) hHeld ?_ ?_
  rotate_left
  · rintro w' ⟨s0, s1, s2⟩
    go_simp
    with_reducible rfl
  rotate_left
  · simp only [Act.put, List.setIfInBounds_toArray, List.set_cons_zero, List.set_cons_succ, i64_w, i32_w]
    rfl
  refine pure_ (i := 3) (N := (some 20)) (v := ?_) (a' := ?_) #[true, true, false, true, false, false, false, false, false, false, false, false, false, false, false, false] rfl rfl (any_of HT_.out (by kernel_rfl)) (fun _ _ _ h => h) (Or.inl ⟨by rfl, ?_⟩) ?_ ?_
  rotate_left
  · intro w'
    go_simp
    with_reducible rfl
  rotate_left
  · simp only [Act.put, List.setIfInBounds_toArray, List.set_cons_zero, List.set_cons_succ, i64_w, i32_w]
    rfl
  refine pure_ (i := 4) (N := (some 21)) (v := ?_) (a' := ?_) #[true, true, false, true, true, false, false, false, false, false, false, false, false, false, false, false] rfl rfl (any_of HT_.out (by kernel_rfl)) (fun _ _ _ h => h) (Or.inl ⟨by rfl, ?_⟩) ?_ ?_
  rotate_left
  · intro w'
    go_simp
    with_reducible rfl
  rotate_left
  · simp only [Act.put, List.setIfInBounds_toArray, List.set_cons_zero, List.set_cons_succ, i64_w, i32_w]
    rfl
  refine take_ (i := 5) (N := (some 22)) (v := ?_) (a' := ?_) #[true, true, false, true, true, true, false, false, false, false, false, false, false, false, false, false] rfl rfl (take_ofW HT_.out HW_.out (by kernel_rfl)) (fun _ _ _ h => h) (Or.inl ⟨by rfl, ?_⟩) hHeld ?_ ?_
  rotate_left
  · rintro w' ⟨s0, s1, s2⟩
    go_simp
    with_reducible rfl
  rotate_left
  · simp only [Act.put, List.setIfInBounds_toArray, List.set_cons_zero, List.set_cons_succ, i64_w, i32_w]
    rfl
  refine pure_ (i := 7) (N := (some 24)) (v := ?_) (a' := ?_) #[true, true, false, true, true, true, false, true, false, false, false, false, false, false, false, false] rfl rfl (any_of HT_.out (by kernel_rfl)) (fun _ _ _ h => h) (Or.inl ⟨by rfl, ?_⟩) ?_ ?_
  rotate_left
  · intro w'
    go_simp
    with_reducible rfl
  rotate_left
  · simp only [Act.put, List.setIfInBounds_toArray, List.set_cons_zero, List.set_cons_succ, i64_w, i32_w]
    rfl
  refine pure_ (i := 8) (N := (some 25)) (v := ?_) (a' := ?_) #[true, true, false, true, true, true, false, true, true, false, false, false, false, false, false, false] rfl rfl (any_of HT_.out (by kernel_rfl)) (fun _ _ _ h => h) (Or.inl ⟨by rfl, ?_⟩) ?_ ?_
  rotate_left
  · intro w'
    go_simp
    with_reducible rfl
  rotate_left
  · simp only [Act.put, List.setIfInBounds_toArray, List.set_cons_zero, List.set_cons_succ, i64_w, i32_w]
    rfl
  refine take_ (i := 9) (N := (some 26)) (v := ?_) (a' := ?_) #[true, true, false, true, true, true, false, true, true, true, false, false, false, false, false, false] rfl rfl (take_ofW HT_.out HW_.out (by kernel_rfl)) (fun _ _ _ h => h) (Or.inl ⟨by rfl, ?_⟩) hHeld ?_ ?_
  rotate_left
  · rintro w' ⟨s0, s1, s2⟩
    go_simp
    with_reducible rfl
  rotate_left
  · simp only [Act.put, List.setIfInBounds_toArray, List.set_cons_zero, List.set_cons_succ, i64_w, i32_w]
    rfl
  refine one_ (i := 2) (N := (some 19)) #[true, true, true, true, true, true, false, true, true, true, false, false, false, false, false, false] rfl rfl (one_of HT_.out (by kernel_rfl)) (by decide) (fun K_ hK => ?_)
  refine call_ 102 #[.slice Ap s.node.pairs.length cp] (by rfl) rfl ?hrun2 ?_
  (case hrun2 => first | (go_simp; done) | (go_simp; exact enters Tryz.func102 (by kernel_rfl) rfl _ _))
  refine (clone_pairs Ap s.node.pairs.length cp s.node.pairs _ (Kd.F_now n3_.out) hp).mono ?_
  rintro e w4 ⟨v4, rfl, hR4, hB4⟩
  obtain ⟨A4, cc4, rfl⟩ := Kd.R_slice hR4
  have mr_ := Aside0.mk hR4
  have mb_ := Aside0.mk hB4
  have m6_ := Aside0.mk (blk_below n6_.out hB4)
  have m4_ := Aside0.mk (Kd.F_below n4_.out hB4)
  have m5_ := Aside0.mk (Kd.F_below n5_.out hB4)
  clear hR4 hB4
  refine ⟨_, rfl, ?_⟩
  refine hK.out _ _ ⟨(blk_cell m6_.out 2).trans rfl, (blk_cell m6_.out 3).trans rfl, (blk_cell m6_.out 4).trans rfl⟩ (fun hHeld => ?_)
  clear hK K_
  refine norm_ (a' := ?_) ?_ ?_
  rotate_left
  · show Act.put _ (some 19) _ = _
    simp only [Act.put, List.setIfInBounds_toArray, List.set_cons_zero, List.set_cons_succ, i64_w, i32_w]
    rfl
  refine pure_ (i := 12) (N := (some 29)) (v := ?_) (a' := ?_) #[true, true, true, true, true, true, false, true, true, true, false, false, true, false, false, false] rfl rfl (any_of HT_.out (by kernel_rfl)) (fun _ _ _ h => h) (Or.inl ⟨by rfl, ?_⟩) ?_ ?_
  rotate_left
  · intro w'
    go_simp
    with_reducible rfl
  rotate_left
  · simp only [Act.put, List.setIfInBounds_toArray, List.set_cons_zero, List.set_cons_succ, i64_w, i32_w]
    rfl
  refine one_ (i := 6) (N := (some 23)) #[true, true, true, true, true, true, true, true, true, true, false, false, true, false, false, false] rfl rfl (one_of HT_.out (by kernel_rfl)) (by decide) (fun K_ hK => ?_)
  refine call_ 103 #[.slice Ak s.node.keys.length ck] (by rfl) rfl ?hrun6 ?_
  (case hrun6 => first | (go_simp; done) | (go_simp; exact enters Tryz.func103 (by kernel_rfl) rfl _ _))
  refine (clone_keys Ak s.node.keys.length ck s.node.keys _ (Kd.F_now m4_.out) hk).mono ?_
  rintro e w5 ⟨v5, rfl, hR5, hB5⟩
  obtain ⟨A5, cc5, rfl⟩ := Kd.R_slice hR5
  have jr_ := Aside0.mk hR5
  have jb_ := Aside0.mk hB5
  have j6_ := Aside0.mk (blk_below m6_.out hB5)
  have j5_ := Aside0.mk (Kd.F_below m5_.out hB5)
  clear hR5 hB5
  refine ⟨_, rfl, ?_⟩
  refine hK.out _ _ ⟨(blk_cell j6_.out 2).trans rfl, (blk_cell j6_.out 3).trans rfl, (blk_cell j6_.out 4).trans rfl⟩ (fun hHeld => ?_)
  clear hK K_
  refine norm_ (a' := ?_) ?_ ?_
  rotate_left
  · show Act.put _ (some 23) _ = _
    simp only [Act.put, List.setIfInBounds_toArray, List.set_cons_zero, List.set_cons_succ, i64_w, i32_w]
    rfl
  refine one_ (i := 10) (N := (some 27)) #[true, true, true, true, true, true, true, true, true, true, true, false, true, false, false, false] rfl rfl (one_of HT_.out (by kernel_rfl)) (by decide) (fun K_ hK => ?_)
  refine call_ 104 #[.slice Ay s.node.ways.length cy] (by rfl) rfl ?hrun10 ?_
  (case hrun10 => first | (go_simp; done) | (go_simp; exact enters Tryz.func104 (by kernel_rfl) rfl _ _))
  refine (clone_ways Ay s.node.ways.length cy s.node.ways _ (Kd.F_now j5_.out) hy).mono ?_
  rintro e w6 ⟨v6, rfl, hR6, hB6⟩
  obtain ⟨A6, cc6, rfl⟩ := Kd.R_slice hR6
  have ir_ := Aside0.mk hR6
  have ib_ := Aside0.mk hB6
  have i6_ := Aside0.mk (blk_below j6_.out hB6)
  clear hR6 hB6
  refine ⟨_, rfl, ?_⟩
  refine hK.out _ _ ⟨(blk_cell i6_.out 2).trans rfl, (blk_cell i6_.out 3).trans rfl, (blk_cell i6_.out 4).trans rfl⟩ (fun hHeld => ?_)
  clear hK K_
  refine norm_ (a' := ?_) ?_ ?_
  rotate_left
  · show Act.put _ (some 27) _ = _
    simp only [Act.put, List.setIfInBounds_toArray, List.set_cons_zero, List.set_cons_succ, i64_w, i32_w]
    rfl
  refine pure_ (i := 11) (N := (some 28)) (v := ?_) (a' := ?_) #[true, true, true, true, true, true, true, true, true, true, true, true, true, false, false, false] rfl rfl (any_of HT_.out (by kernel_rfl)) (fun _ _ _ h => h) (Or.inl ⟨by rfl, ?_⟩) ?_ ?_
  rotate_left
  · intro w'
    go_simp
    with_reducible rfl
  rotate_left
  · simp only [Act.put, List.setIfInBounds_toArray, List.set_cons_zero, List.set_cons_succ, i64_w, i32_w]
    rfl
  have z2 := blk_frozen i6_.out 2
  have z3 := blk_frozen i6_.out 3
  have z4 := blk_frozen i6_.out 4
  refine last_ (i := 13) (N := none) #[true, true, true, true, true, true, true, true, true, true, true, true, true, true, false, false] rfl rfl (one_of HT_.out (by kernel_rfl)) (by decide) (fun K_ hK => ?_)
  refine skip_ (w1 := ?_) (by rfl) rfl ?_ ?_
  rotate_left
  · go_simp
    rfl
  refine hK.out _ _ ?_
  clear hK K_
  refine pure_ (i := 14) (N := (some 30)) (v := ?_) (a' := ?_) #[true, true, true, true, true, true, true, true, true, true, true, true, true, true, true, false] rfl rfl (any_of HT_.out (by kernel_rfl)) (fun _ _ _ h => h) (Or.inl ⟨by rfl, ?_⟩) ?_ ?_
  rotate_left
  · intro w'
    go_simp
    with_reducible rfl
  rotate_left
  · simp only [Act.put, List.setIfInBounds_toArray, List.set_cons_zero, List.set_cons_succ, i64_w, i32_w]
    rfl
  refine last_ (i := 15) (N := none) #[true, true, true, true, true, true, true, true, true, true, true, true, true, true, true, true] rfl rfl (one_of HT_.out (by kernel_rfl)) (by decide) (fun K_ hK => ?_)
  refine skip_ (w1 := ?_) (by rfl) rfl ?_ ?_
  rotate_left
  · go_simp
    rfl
  refine hK.out _ _ ?_
  clear hK K_
  refine done_ (done_of HT_.out (by kernel_rfl)) ?_
  have hOB : Aside0 (∀ k, ok k → k ≠ w.heap.size ∧ k ≠ b6) := ⟨fun k hk => by have := HL.out k hk; have := hb6.out; omega⟩
  have B36 := below_then (below_then mb_.out mb_.out.size jb_.out) (below_then mb_.out mb_.out.size jb_.out).size ib_.out
  have a6_ := n0_.out.step (w1 := w6) B36.size (fun k _ hlt => B36.block k hlt)
  have a7_ := Aside0.mk (a6_.step (w1 := ((w6.setCell ⟨b6, 2, none⟩ (.slice A4 s.node.pairs.length cc4)).setCell ⟨b6, 3, none⟩ (.slice A5 s.node.keys.length cc5)).setCell ⟨b6, 4, none⟩ (.slice A6 s.node.ways.length cc6)) (by simp [World.setCell]) (fun k hk _ => (Below.heap_setCell _ ⟨b6, 4, none⟩ _ k (hOB.out k hk).2).trans ((Below.heap_setCell _ ⟨b6, 3, none⟩ _ k (hOB.out k hk).2).trans (Below.heap_setCell _ ⟨b6, 2, none⟩ _ k (hOB.out k hk).2))))
  have x7_ := Aside0.mk (blk_set (blk_set (blk_set i6_.out 2 (.slice A4 s.node.pairs.length cc4)) 3 (.slice A5 s.node.keys.length cc5)) 4 (.slice A6 s.node.ways.length cc6))
  have hbn : w.heap.size ≠ b6 := by have := hb6.out; omega
  have y7_ := Aside0.mk (blk_far (blk_far (blk_far (blk_below n1_.out B36) (p := ⟨b6, 2, none⟩) hbn (.slice A4 s.node.pairs.length cc4)) (p := ⟨b6, 3, none⟩) hbn (.slice A5 s.node.keys.length cc5)) (p := ⟨b6, 4, none⟩) hbn (.slice A6 s.node.ways.length cc6))
  have hbw : w.heap.size ≤ b6 := by have := hb6.out; omega
  have m7_ := Aside0.mk ((((n2_.out.below B36).set (p := ⟨b6, 2, none⟩) (.inr hbw) (.slice A4 s.node.pairs.length cc4)).set (p := ⟨b6, 3, none⟩) (.inr hbw) (.slice A5 s.node.keys.length cc5)).set (p := ⟨b6, 4, none⟩) (.inr hbw) (.slice A6 s.node.ways.length cc6))
  have hlt3 : b6 < w3.heap.size := blk_lt n6_.out
  have hn3 : w.heap.size ≤ w3.heap.size := by omega
  have hq : ∀ N, w3.heap.size ≤ N → ∀ q, N ≤ q → q ≠ b6 := fun N h1 q h2 => by omega
  have p7_ := Aside0.mk (Kd.R_far (Kd.R_far (Kd.R_far (Kd.R_below (Kd.R_below mr_.out jb_.out) ib_.out) (p := ⟨b6, 2, none⟩) (hq _ (Nat.le_refl _)) (.slice A4 s.node.pairs.length cc4)) (p := ⟨b6, 3, none⟩) (hq _ (Nat.le_refl _)) (.slice A5 s.node.keys.length cc5)) (p := ⟨b6, 4, none⟩) (hq _ (Nat.le_refl _)) (.slice A6 s.node.ways.length cc6))
  have k7_ := Aside0.mk (Kd.R_far (Kd.R_far (Kd.R_far (Kd.R_below jr_.out ib_.out) (p := ⟨b6, 2, none⟩) (hq _ mb_.out.size) (.slice A4 s.node.pairs.length cc4)) (p := ⟨b6, 3, none⟩) (hq _ mb_.out.size) (.slice A5 s.node.keys.length cc5)) (p := ⟨b6, 4, none⟩) (hq _ mb_.out.size) (.slice A6 s.node.ways.length cc6))
  have v7_ := Aside0.mk (Kd.R_far (Kd.R_far (Kd.R_far ir_.out (p := ⟨b6, 2, none⟩) (hq _ (Nat.le_trans mb_.out.size jb_.out.size)) (.slice A4 s.node.pairs.length cc4)) (p := ⟨b6, 3, none⟩) (hq _ (Nat.le_trans mb_.out.size jb_.out.size)) (.slice A5 s.node.keys.length cc5)) (p := ⟨b6, 4, none⟩) (hq _ (Nat.le_trans mb_.out.size jb_.out.size)) (.slice A6 s.node.ways.length cc6))
  have hs4 : w.heap.size < w4.heap.size := Nat.lt_of_lt_of_le (Nat.lt_of_lt_of_le hb6.out (Nat.le_of_lt hlt3)) mb_.out.size
  have hs5 : w.heap.size < w5.heap.size := Nat.lt_of_lt_of_le hs4 jb_.out.size
  have hs3 : w.heap.size < w3.heap.size := by omega
  have g3 := Aside0.mk hs3
  have g4 := Aside0.mk hs4
  have g5 := Aside0.mk hs5
  clear hs3 hs4 hs5 hq hn3 hlt3 hbw hbn B36 a6_ hHeld z2 z3 z4
  generalize ((w6.setCell ⟨b6, 2, none⟩ (.slice A4 s.node.pairs.length cc4)).setCell ⟨b6, 3, none⟩ (.slice A5 s.node.keys.length cc5)).setCell ⟨b6, 4, none⟩ (.slice A6 s.node.ways.length cc6) = w7 at a7_ x7_ y7_ m7_ p7_ k7_ v7_ ⊢
  have k0 := (blk_cell x7_.out 0).trans (rfl : _ = some (Value.bool s.node.inner))
  have k1 := (blk_cell x7_.out 1).trans (rfl : _ = some (Value.bool s.node.tagged))
  have k2 := (blk_cell x7_.out 2).trans (rfl : _ = some (Value.slice A4 s.node.pairs.length cc4))
  have k3 := (blk_cell x7_.out 3).trans (rfl : _ = some (Value.slice A5 s.node.keys.length cc5))
  have k4 := (blk_cell x7_.out 4).trans (rfl : _ = some (Value.slice A6 s.node.ways.length cc6))
  have o0 := (blk_cell y7_.out 0).trans (rfl : _ = some (Value.bool false))
  have o1 := (blk_cell y7_.out 1).trans (rfl : _ = some (Value.bool false))
  have o2 := (blk_cell y7_.out 2).trans (rfl : _ = some (Value.slice none 0 0))
  have o3 := (blk_cell y7_.out 3).trans (rfl : _ = some (Value.slice none 0 0))
  have o4 := (blk_cell y7_.out 4).trans (rfl : _ = some (Value.slice none 0 0))
  have z0 := blk_frozen y7_.out 0
  have z1 := blk_frozen y7_.out 1
  have z2 := blk_frozen y7_.out 2
  have z3 := blk_frozen y7_.out 3
  have z4 := blk_frozen y7_.out 4
  go_wp2_with fail
  show bodyPost _ _ _ _ _ (set5 w7 w.heap.size (.bool s.node.inner) (.bool s.node.tagged) (.slice A4 s.node.pairs.length cc4) (.slice A5 s.node.keys.length cc5) (.slice A6 s.node.ways.length cc6))
  refine bodyPost_ret (results_c rfl _ _ w.heap.size 29 _ (0, 0) _ rfl (set5_box y7_.out _ _ _ _ _) Tryz.underlying29 rfl (by kernel_rfl)) rfl ?_
  refine ⟨⟨_, rfl, ⟨_, _, _, rfl, ?_, ?_, ?_⟩⟩, ⟨_, _, _, _, a7_.out.step (by rw [set5_size]; exact Nat.le_refl _) (fun k hk _ => set5_far _ _ _ _ _ _ _ k (hOB.out k hk).1)⟩, set5_moves m7_.out (Nat.le_refl _) _ _ _ _ _⟩
  · exact Kd.R_mono (Kd.R_lower (Kd.R_step p7_.out (fun k hk _ => set5_far _ _ _ _ _ _ _ k (by have := g3.out; omega))) (Nat.le_of_lt g3.out)) (fun q hq => Nat.le_trans (Nat.le_of_lt g3.out) hq)
  · exact Kd.R_mono (Kd.R_lower (Kd.R_step k7_.out (fun k hk _ => set5_far _ _ _ _ _ _ _ k (by have := g4.out; omega))) (Nat.le_of_lt g4.out)) (fun q hq => Nat.le_trans (Nat.le_of_lt g4.out) hq)
  · exact Kd.R_mono (Kd.R_lower (Kd.R_step v7_.out (fun k hk _ => set5_far _ _ _ _ _ _ _ k (by have := g5.out; omega))) (Nat.le_of_lt g5.out)) (fun q hq => Nat.le_trans (Nat.le_of_lt g5.out) hq)

/-- What is in the arena is small. -/
structure Ar.Fits (a : Ar) : Prop where
  slots : a.slots.length < 1000000
  node : ∀ (i : Nat) (s : Sl), a.slots[i]? = some s → s.node.pairs.length < 1000000 ∧ s.node.keys.length < 1000000 ∧ s.node.ways.length < 1000000 ∧ s.ways.length < 1000000
theorem look_calls {ok : Nat → Prop} {pA : Nat} {a : Ar} (r : Int) (w : World) (h : IsArena ok pA a w) (hf : a.Fits) :
    Calls Tryz.prog 87 #[.pointer (some ⟨pA, 0, none⟩), .int .i64 r] w (LookPost ok pA (a.look r).1 (a.look r).2 w) := by
  cases hx : a.idx r with
  | none =>
    have e1 : a.look r = (nd0, a.fault) := by simp [Ar.look, hx]
    rw [e1]
    exact look_miss r w h hf.slots hx
  | some j =>
    obtain ⟨hp, s, hs, hu, hr⟩ := Ar.idx_some hx
    have e1 : a.look r = (s.node, a) := by simp [Ar.look, hx, hs]
    rw [e1]
    obtain ⟨h1, h2, h3, _⟩ := hf.node j s hs
    exact look_hit r j s w h hf.slots hx hs h1 h2 h3
end Go.Proofs.YtchjjoepikcmfaaGreat.Tower
