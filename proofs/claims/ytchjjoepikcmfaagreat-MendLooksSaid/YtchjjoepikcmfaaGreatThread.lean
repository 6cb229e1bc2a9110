/- A thread in memory, and what its methods do to it. -/
import Derived.Test.YtchjjoepikcmfaaGreatOwn
import Derived.Test.YtchjjoepikcmfaaGreatChecked
import Derived.Test.YtchjjoepikcmfaaGreatWLast
import Derived.Test.YtchjjoepikcmfaaGreatWMore
import Derived.WalkKit
import Derived.ProofKit
import Derived.Below
import Derived.Deep.QuietTactic
import Derived.BigQuiet
import Derived.Recover
namespace Go.Proofs.YtchjjoepikcmfaaGreat.Tower
open Go Go.RowKit Go.Proofs.YtchjjoepikcmfaaGreatW.PrintWords Go.Proofs.YtchjjoepikcmfaaGreatW.PrintLast Go.Proofs.YtchjjoepikcmfaaGreatW.PrintMore Go.Proofs.YtchjjoepikcmfaaGreat.Own
set_option linter.unusedVariables false
set_option linter.unusedSimpArgs false

structure Th where
  log : List Int
  at_ : Int
  spent : Bool
  in_ : Bool
  done : Bool
  out : List Int

def thCells (work lv ov : Value) (th : Th) : Array Value := #[work, lv, .int .i64 th.at_, .bool th.spent, .bool th.in_, .bool th.done, ov]

/-- A thread in memory: its box tb; lv: its log; A, c: what it came to. -/
def ThreadAt (ok : Nat → Prop) (tb : Nat) (work lv : Value) (A : Option Addr) (c : Nat) (th : Th) (w : World) : Prop :=
  ok tb ∧ (∀ k, ok k → k < w.heap.size) ∧ w.heap[tb]? = some (.cells (thCells work lv (.slice A th.out.length c) th) 135 (0, 0)) ∧
    (Kd.int .i64).R 2 w 0 (fun k => ok k ∧ k ≠ tb) lv th.log ∧ th.out.length ≤ c ∧ (Kd.int .i64).F w (fun k => ok k ∧ k ≠ tb ∧ some k ≠ lv.ownBlock) A th.out.length th.out
def IsThread (ok : Nat → Prop) (tb : Nat) (work : Value) (th : Th) (w : World) : Prop := ∃ lv A c, ThreadAt ok tb work lv A c th w

section
variable {ok : Nat → Prop} {tb : Nat} {work lv : Value} {A : Option Addr} {c : Nat} {th : Th} {w w1 : World}
theorem ThreadAt.step (h : ThreadAt ok tb work lv A c th w) (hs : w.heap.size ≤ w1.heap.size) (hm : ∀ k, ok k → k < w.heap.size → w1.heap[k]? = w.heap[k]?) : ThreadAt ok tb work lv A c th w1 := by
  obtain ⟨h1, h2, hb, hl, hc, ho⟩ := h
  exact ⟨h1, fun k hk => Nat.lt_of_lt_of_le (h2 k hk) hs, (hm tb h1 (h2 tb h1)).trans hb, Kd.R_step hl (fun k hk hlt => hm k hk.1 hlt), hc, Kd.F_step ho (fun k hk hlt => hm k hk.1 hlt)⟩
theorem ThreadAt.below (h : ThreadAt ok tb work lv A c th w) (hb : Below w.heap.size w w1) : ThreadAt ok tb work lv A c th w1 := h.step hb.size (fun k _ hlt => hb.block k hlt)
theorem ThreadAt.drewN (h : ThreadAt ok tb work lv A c th w) (m : Nat) : ThreadAt ok tb work lv A c th (w.drewN m) := h.step (Nat.le_refl _) (fun _ _ _ => rfl)
theorem ThreadAt.drew (h : ThreadAt ok tb work lv A c th w) : ThreadAt ok tb work lv A c th w.drew := h.step (Nat.le_refl _) (fun _ _ _ => rfl)
/-- A number of the thread's is set. -/
theorem ThreadAt.at_set (h : ThreadAt ok tb work lv A c th w) (n : Int) : ThreadAt ok tb work lv A c { th with at_ := n } (w.setCell ⟨tb, 2, none⟩ (.int .i64 n)) := by
  obtain ⟨h1, h2, hb, hl, hc, ho⟩ := h
  exact ⟨h1, fun k hk => by simpa [World.setCell] using h2 k hk, blk_set hb 2 _, Kd.R_far hl (fun k hk => hk.2) _, hc, Kd.F_far ho (fun k hk => hk.2.1) _⟩
theorem ThreadAt.spent_set (h : ThreadAt ok tb work lv A c th w) (b : Bool) : ThreadAt ok tb work lv A c { th with spent := b } (w.setCell ⟨tb, 3, none⟩ (.bool b)) := by
  obtain ⟨h1, h2, hb, hl, hc, ho⟩ := h
  exact ⟨h1, fun k hk => by simpa [World.setCell] using h2 k hk, blk_set hb 3 _, Kd.R_far hl (fun k hk => hk.2) _, hc, Kd.F_far ho (fun k hk => hk.2.1) _⟩
theorem ThreadAt.in_set (h : ThreadAt ok tb work lv A c th w) (b : Bool) : ThreadAt ok tb work lv A c { th with in_ := b } (w.setCell ⟨tb, 4, none⟩ (.bool b)) := by
  obtain ⟨h1, h2, hb, hl, hc, ho⟩ := h
  exact ⟨h1, fun k hk => by simpa [World.setCell] using h2 k hk, blk_set hb 4 _, Kd.R_far hl (fun k hk => hk.2) _, hc, Kd.F_far ho (fun k hk => hk.2.1) _⟩
theorem ThreadAt.done_set (h : ThreadAt ok tb work lv A c th w) (b : Bool) : ThreadAt ok tb work lv A c { th with done := b } (w.setCell ⟨tb, 5, none⟩ (.bool b)) := by
  obtain ⟨h1, h2, hb, hl, hc, ho⟩ := h
  exact ⟨h1, fun k hk => by simpa [World.setCell] using h2 k hk, blk_set hb 5 _, Kd.R_far hl (fun k hk => hk.2) _, hc, Kd.F_far ho (fun k hk => hk.2.1) _⟩
/-- The log has grown (v1: behind the append, in w1), and lies in the box. -/
theorem ThreadAt.log_set {v1 : Value} {n : Int} {N : Nat} (h : ThreadAt ok tb work lv A c th w) (hN : w.heap.size ≤ N) (hg : w.grownBy w1 lv.ownBlock) (hat : v1.ownBlock = lv.ownBlock ∨ ∃ b, v1.ownBlock = some b ∧ N ≤ b)
    (hr : (Kd.int .i64).R 2 w1 0 (fun k => (ok k ∧ k ≠ tb) ∨ N ≤ k) v1 (th.log ++ [n])) :
    ThreadAt (fun k => ok k ∨ (N ≤ k ∧ k < w1.heap.size)) tb work v1 A c { th with log := th.log ++ [n] } (w1.setCell ⟨tb, 1, none⟩ v1) := by
  obtain ⟨h1, h2, hb, hl, hc, ho⟩ := h
  have htb := h2 tb h1
  have hne : some tb ≠ lv.ownBlock := fun e => (hl.1 tb e.symm).2 rfl
  refine ⟨.inl h1, fun k hk => ?_, blk_set (blk_grown hb hg hne) 1 _, ?_, hc, ?_⟩
  · have hs : (w1.setCell ⟨tb, 1, none⟩ v1).heap.size = w1.heap.size := by simp [World.setCell]
    rw [hs]
    rcases hk with hk | hk
    · exact Nat.lt_of_lt_of_le (h2 k hk) hg.size
    · exact hk.2
  · refine Kd.R_far (Kd.R_mono (Kd.R_bound hr) (fun k hk => ?_)) (fun k hk => hk.2) _
    rcases hk.1 with h3 | h3
    · exact ⟨.inl h3.1, h3.2⟩
    · exact ⟨.inr ⟨h3, hk.2.2.1⟩, by omega⟩
  · refine Kd.F_far (Kd.F_mono (Kd.F_step (Kd.F_bound ho) (fun k hk hlt => hg.block k hlt hk.1.2.2)) (fun k hk => ⟨.inl hk.1.1, hk.1.2.1, ?_⟩)) (fun k hk => hk.2.1) _
    rcases hat with e | ⟨b, e, hle⟩
    · rw [e]; exact hk.1.2.2
    · rw [e]; intro he; injection he with he; have := hk.2; omega
/-- What it came to is set. -/
theorem ThreadAt.out_set {okv : Nat → Prop} {base : Nat} {Av : Option Addr} {cv : Nat} {l : List Int} (h : ThreadAt ok tb work lv A c th w) (hv : (Kd.int .i64).R 2 w base okv (.slice Av l.length cv) l) (hn : ∀ k, okv k → ¬ ok k) :
    ThreadAt (fun k => ok k ∨ some k = (Value.slice Av l.length cv).ownBlock) tb work lv Av cv { th with out := l } (w.setCell ⟨tb, 6, none⟩ (.slice Av l.length cv)) := by
  obtain ⟨h1, h2, hb, hl, hc, ho⟩ := h
  have ht := Kd.R_tight rfl hv
  refine ⟨.inl h1, fun k hk => ?_, blk_set hb 6 _, ?_, (Kd.R_reads' hv).2.1, ?_⟩
  · have hs : (w.setCell ⟨tb, 6, none⟩ (.slice Av l.length cv)).heap.size = w.heap.size := by simp [World.setCell]
    rw [hs]
    rcases hk with hk | hk
    · exact h2 k hk
    · exact Kd.R_lt hv k hk.symm
  · exact Kd.R_far (Kd.R_mono hl (fun k hk => ⟨.inl hk.1, hk.2⟩)) (fun k hk => hk.2) _
  · refine Kd.F_far (Kd.F_mono (Kd.R_F ht) (fun k hk => ⟨.inr hk, ?_, ?_⟩)) (fun k hk => hk.2.1) _
    · intro e
      exact hn k (hv.1 k hk.symm) (e ▸ h1)
    · intro e
      exact hn k (hv.1 k hk.symm) (hl.1 k e.symm).1
theorem IsThread.step (h : IsThread ok tb work th w) (hs : w.heap.size ≤ w1.heap.size) (hm : ∀ k, ok k → k < w.heap.size → w1.heap[k]? = w.heap[k]?) : IsThread ok tb work th w1 := by
  obtain ⟨lv, A, c, h⟩ := h
  exact ⟨lv, A, c, h.step hs hm⟩
end

/-- An element of a row of numbers of one's own. -/
theorem int_elem {k : IntKind} {e : Nat} {W : World} {base : Nat} {ok : Nat → Prop} {A : Option Addr} {n cap : Nat} {xs : List Int} (h : (Kd.int k).R e W base ok (.slice A n cap) xs) (i : Int) (h0 : 0 ≤ i) (h1 : i < n) :
    ∃ gl, A = some ⟨gl, 0, none⟩ ∧ ok gl ∧ W.cell? ⟨gl, i.toNat, none⟩ = some (.int k (xs.getD i.toNat 0)) := by
  cases A with
  | none =>
    have h2 := (Kd.R_reads' h).2.2
    have h3 := (Kd.R_reads' h).1
    obtain ⟨_, inner, ho, hr⟩ := h
    rcases ho.2 with ⟨hv, hn⟩ | ⟨g, cap', cur, hv, _⟩
    · omega
    · cases hv
  | some ad =>
    obtain ⟨gl, rfl⟩ := Kd.R_head h
    obtain ⟨c, hcl, hM, hcc⟩ := Kd.R_getA h 0 i h0 h1
    have hM' : c = [.int k (xs.getD i.toNat 0)] := hM
    refine ⟨gl, rfl, h.1 gl (by simp [Value.ownBlock]), ?_⟩
    have := hcc 0 (.int k (xs.getD i.toNat 0)) (by rw [hM']; rfl)
    rw [add_at, Nat.zero_add] at this
    simpa [Kd.int, Kd.scalar] using this

theorem run_equalIn_func_nil {P : Program} (d : Nat) (t : TypeId) {a b : Array TypeId} {c : Bool} (g : Fn) (fst cap : Array Value) (w : World) (h : P.underlying t = some (.func a b c)) : (Op.equalIn (d + 1) t (.func g fst cap) .nilFunc).run P w = .ok false w := by
  simp [Op.equalIn, run_underlying h]
theorem run_eql_func_nil {P : Program} (t : TypeId) {a b : Array TypeId} {c : Bool} (g : Fn) (fst cap : Array Value) (w : World) (h : P.underlying t = some (.func a b c)) : (binOp .eql t (.func g fst cap) .nilFunc).run P w = .ok (.bool false) w := by
  have := run_equalIn_func_nil (P := P) 9999 t g fst cap w h
  simp only [binOp]
  simp [Op.equal, Op.maxDepth, this]
theorem eqlF1 (g : Fn) (fst cap : Array Value) (w : World) : (binOp .eql 145 (.func g fst cap) .nilFunc).run Tryz.prog w = .ok (.bool false) w := run_eql_func_nil _ g fst cap w Tryz.underlying145
theorem eqlF2 (g : Fn) (fst cap : Array Value) (w : World) : (binOp .eql 133 (.func g fst cap) .nilFunc).run Tryz.prog w = .ok (.bool false) w := run_eql_func_nil _ g fst cap w Tryz.underlying133
theorem eqlF3 (g : Fn) (fst cap : Array Value) (w : World) : (binOp .eql 30 (.func g fst cap) .nilFunc).run Tryz.prog w = .ok (.bool false) w := run_eql_func_nil _ g fst cap w Tryz.underlying30
theorem notB (x : Bool) (w : World) : (Op.unary .not (.bool x)).run Tryz.prog w = .ok (.bool (!x)) w := rfl
theorem info64 : (Tryz.prog.info? 2).map (fun i => (i.zero, i.size, i.bytes)) = some (some (.int .i64 0), 1, 8) := by kernel_rfl
theorem panicW (w : World) : (Instr.panic (.iface 170 (.agg #[]))).run Tryz.prog w = .halt (.panic (.iface 170 (.agg #[]))) w := rfl
attribute [local go_sem] eqlF1 eqlF2 eqlF3 panicW

set_option maxHeartbeats 2000000 in
set_option maxRecDepth 100000 in
/-- Do, told again what it was. -/
theorem do_told (ok : Nat → Prop) (tb : Nat) (work : Value) (th : Th) (w : World) (g : Fn) (fst cap : Array Value) (h : IsThread ok tb work th w) (hin : th.in_ = true) (h0 : 0 ≤ th.at_) (hat : th.at_ < th.log.length) (hl : th.log.length < 1000000) (r : Int) (hr : th.log.getD th.at_.toNat 0 = r) :
    Calls Tryz.prog 89 #[.pointer (some ⟨tb, 0, none⟩), .func g fst cap] w fun e w' => e = .returned (.int .i64 r) ∧ IsThread ok tb work { th with at_ := th.at_ + 1 } w' ∧ Moves ok ok w w' := by
  obtain ⟨lv, A, c, h⟩ := h
  obtain ⟨H1, H2, hb, hR, hc, ho⟩ := id h
  obtain ⟨Al, cl, rfl⟩ := Kd.R_slice hR
  have HI := Aside0.mk h
  have HB := Aside0.mk hb
  have H0 := Aside0.mk H1
  have c1 : w.cell? ⟨tb, 1, none⟩ = some (.slice Al th.log.length cl) := (blk_cell hb 1).trans rfl
  have c2 : w.cell? ⟨tb, 2, none⟩ = some (.int .i64 th.at_) := (blk_cell hb 2).trans rfl
  have c4 : w.cell? ⟨tb, 4, none⟩ = some (.bool true) := (blk_cell hb 4).trans (by rw [← hin]; rfl)
  have f2 := blk_frozen hb 2
  have d1 : decide (th.at_ < (th.log.length : Int)) = true := decide_eq_true hat
  have hw1 : wrap64 (th.at_ + 1) = th.at_ + 1 := by unfold wrap64; omega
  have hw2 : wrap64 (th.at_ + 1 - 1) = th.at_ := by unfold wrap64; omega
  obtain ⟨gl, rfl, ⟨hgo, hne⟩, hcl⟩ := int_elem hR th.at_ h0 hat
  rw [hr] at hcl
  clear hr h ho hc H1 H2 HB
  go_enter Tryz.func89, Tryz.ntmps89
  go_wp2_with fail
  go_quiet (fail)
  rename_i nq
  have n0_ := Aside0.mk ((HI.out.drewN nq).at_set (th.at_ + 1))
  have n1_ := Aside0.mk (((Moves.refl ok w).drewN nq).set (p := ⟨tb, 2, none⟩) (.inl H0.out) (.int .i64 (th.at_ + 1)))
  clear HI
  go_upto_region 5 with fail
  have g1 := (cell_far (W := w.drewN nq) (a := ⟨gl, th.at_.toNat, none⟩) (p := ⟨tb, 2, none⟩) hne (.int .i64 (th.at_ + 1))).trans hcl
  have g2 := (blk_cell (blk_set (w := w.drewN nq) hb 2 (.int .i64 (th.at_ + 1))) 1).trans (rfl : _ = some (Value.slice (some ⟨gl, 0, none⟩) th.log.length cl))
  have g3 := (blk_cell (blk_set (w := w.drewN nq) hb 2 (.int .i64 (th.at_ + 1))) 2).trans (rfl : _ = some (Value.int .i64 (th.at_ + 1)))
  generalize (w.drewN nq).setCell ⟨tb, 2, none⟩ (.int .i64 (th.at_ + 1)) = W at n0_ n1_ g1 g2 g3 ⊢
  clear c1 c2 c4 f2 d1
  go_quiet (fail)
  go_wp2_with fail
  go_ret
  exact ⟨rfl, ⟨_, _, _, n0_.out.drewN _⟩, n1_.out.drewN _⟩

set_option maxHeartbeats 2000000 in
set_option maxRecDepth 100000 in
/-- Do, in a step that has done its touch: the panic that Step waits for. -/
theorem do_waits (ok : Nat → Prop) (tb : Nat) (work : Value) (th : Th) (w : World) (g : Fn) (fst cap : Array Value) (h : IsThread ok tb work th w) (hin : th.in_ = true) (hat : (th.log.length : Int) ≤ th.at_) (hs : th.spent = true) :
    Calls Tryz.prog 89 #[.pointer (some ⟨tb, 0, none⟩), .func g fst cap] w fun e w' => e = .panicked [⟨.iface 170 (.agg #[]), false, false⟩] ∧ IsThread ok tb work th w' ∧ Moves ok ok w w' := by
  obtain ⟨lv, A, c, h⟩ := h
  obtain ⟨H1, H2, hb, hR, hc, ho⟩ := id h
  obtain ⟨Al, cl, rfl⟩ := Kd.R_slice hR
  have HI := Aside0.mk h
  have c1 : w.cell? ⟨tb, 1, none⟩ = some (.slice Al th.log.length cl) := (blk_cell hb 1).trans rfl
  have c2 : w.cell? ⟨tb, 2, none⟩ = some (.int .i64 th.at_) := (blk_cell hb 2).trans rfl
  have c3 : w.cell? ⟨tb, 3, none⟩ = some (.bool true) := (blk_cell hb 3).trans (by rw [← hs]; rfl)
  have c4 : w.cell? ⟨tb, 4, none⟩ = some (.bool true) := (blk_cell hb 4).trans (by rw [← hin]; rfl)
  have d1 : decide (th.at_ < (th.log.length : Int)) = false := decide_eq_false (by omega)
  have HM := Aside0.mk (Moves.refl ok w)
  clear h ho hc H1 H2 hb hR hin hs hat
  go_enter Tryz.func89, Tryz.ntmps89
  go_wp2_with fail
  go_quiet (fail)
  go_wp2_with fail
  exact ⟨rfl, rfl, ⟨_, _, _, HI.out.drewN _⟩, HM.out.drewN _⟩

set_option maxHeartbeats 2000000 in
set_option maxRecDepth 100000 in
/-- Do, in a step that has not yet done its touch: it is done. -/
theorem do_does (okT okS : Nat → Prop) (tb : Nat) (work : Value) (th : Th) (w : World) (gf : FuncId) (cap : Array Value) (Post : Int → (Nat → Prop) → World → Prop) (h : IsThread okT tb work th w) (hin : th.in_ = true) (hat : th.at_ = (th.log.length : Int)) (hs : th.spent = false) (hl : th.log.length < 1000000)
    (hd : ∀ k, okT k → ¬ okS k)
    (hP : ∀ n ok1 w1 w2, Post n ok1 w1 → w1.heap.size ≤ w2.heap.size → (∀ k, ok1 k → k < w1.heap.size → w2.heap[k]? = w1.heap[k]?) → Post n ok1 w2)
    (hb : ∀ n ok1 w1, Post n ok1 w1 → ∀ k, ok1 k → k < w1.heap.size)
    (he : ∀ w1 : World, (callFunc gf cap).run Tryz.prog w1 = .ok (.enter gf cap) w1)
    (hc : ∀ w1, Moves okT okT w w1 → Calls Tryz.prog gf cap w1 fun e w2 => ∃ n okS1, e = .returned (.int .i64 n) ∧ Post n okS1 w2 ∧ Moves okS okS1 w1 w2) :
    Calls Tryz.prog 89 #[.pointer (some ⟨tb, 0, none⟩), .func (.func gf) #[] cap] w fun e w' => ∃ n okT1 okS1, e = .returned (.int .i64 n) ∧ IsThread okT1 tb work { log := th.log ++ [n], at_ := th.at_ + 1, spent := true, in_ := true, done := th.done, out := th.out } w' ∧ Post n okS1 w' ∧ (∀ k, okT1 k → ¬ okS1 k) ∧ Moves (fun k => okT k ∨ okS k) (fun k => okT1 k ∨ okS1 k) w w' := by
  obtain ⟨lv, A, c, h⟩ := h
  obtain ⟨H1, H2, hbx, hR, hcc, ho⟩ := id h
  obtain ⟨Al, cl, rfl⟩ := Kd.R_slice hR
  have HI := Aside0.mk h
  have HC := Aside0.mk hc
  have HE := Aside0.mk he
  have HD := Aside0.mk hd
  have HP := Aside0.mk hP
  have HBD := Aside0.mk hb
  have H0 := Aside0.mk H1
  have H2L := Aside0.mk H2
  have HT := Aside0.mk hat
  have HIN := Aside0.mk hin
  have HBX := Aside0.mk hbx
  have c1 : w.cell? ⟨tb, 1, none⟩ = some (.slice Al th.log.length cl) := (blk_cell hbx 1).trans rfl
  have c2 : w.cell? ⟨tb, 2, none⟩ = some (.int .i64 th.at_) := (blk_cell hbx 2).trans rfl
  have c3 : w.cell? ⟨tb, 3, none⟩ = some (.bool false) := (blk_cell hbx 3).trans (by rw [← hs]; rfl)
  have c4 : w.cell? ⟨tb, 4, none⟩ = some (.bool true) := (blk_cell hbx 4).trans (by rw [← hin]; rfl)
  have f3 := blk_frozen hbx 3
  have f4 := blk_frozen hbx 4
  have d1 : decide (th.at_ < (th.log.length : Int)) = false := decide_eq_false (by omega)
  clear h ho hcc H1 H2 hbx hR hin hs hat hd hP hb hc he
  go_enter Tryz.func89, Tryz.ntmps89
  go_wp2_with fail
  go_quiet (fail)
  rename_i nq
  go_wp2_with fail
  have HB1 := Aside0.mk (blk_set (blk_set (w := w.drewN nq) HBX.out 3 (.bool true)) 4 (.bool false))
  have HM1 := Aside0.mk ((((Moves.refl okT w).drewN nq).set (p := ⟨tb, 3, none⟩) (.inl H0.out) (.bool true)).set (p := ⟨tb, 4, none⟩) (.inl H0.out) (.bool false))
  have HI1 := Aside0.mk (((HI.out.drewN nq).spent_set true).in_set false)
  clear HI HBX c1 c2 c3 c4 f3 f4
  generalize ((w.drewN nq).setCell ⟨tb, 3, none⟩ (.bool true)).setCell ⟨tb, 4, none⟩ (.bool false) = w1 at HB1 HM1 HI1 ⊢
  rw [HE.out, Oper.upon_enter]
  refine (HC.out w1 HM1.out).mono ?_
  rintro e w2 ⟨n, okS1, rfl, hpost, hmv⟩
  dsimp only
  have htS : ¬ okS tb := HD.out tb H0.out
  have HB2 := Aside0.mk ((hmv.block tb (blk_lt HB1.out) htS).trans HB1.out)
  have HI2 := Aside0.mk (HI1.out.step hmv.size (fun k hk hlt => hmv.block k hlt (HD.out k hk)))
  have HM2 : Aside0 (Moves (fun k => okT k ∨ okS k) (fun k => okT k ∨ okS1 k) w w2) := ⟨((HM1.out.part (ok := fun k => okT k ∨ okS k) (okB := okS) (fun _ h => .inl h) (fun _ h => .inr h)).trans (hmv.part (okB := okT) (fun _ h => .inr h) (fun _ h => .inl h))).owns (fun k hk => hk.elim (fun h => .inl (.inl h)) (fun h => (hmv.fresh k h).elim (fun h => .inl (.inr h)) (fun h => .inr (Nat.le_trans HM1.out.size h))))⟩
  have HPO := Aside0.mk hpost
  have HD1 : Aside0 (∀ k, okT k → ¬ okS1 k) := ⟨fun k hk hk1 => (hmv.fresh k hk1).elim (HD.out k hk) (fun h => by have := H2L.out k hk; have := HM1.out.size; omega)⟩
  have HBL := Aside0.mk (HBD.out n okS1 w2 hpost)
  have f4 := blk_frozen HB2.out 4
  have c4 : w2.cell? ⟨tb, 4, none⟩ = some (.bool false) := (blk_cell HB2.out 4).trans rfl
  clear hmv hpost HB1 HM1 HI1
  go_upto_region 11 with fail
  have n0_ := Aside0.mk (HI2.out.in_set true)
  have n1_ := Aside0.mk (HM2.out.set (p := ⟨tb, 4, none⟩) (.inl (.inl H0.out)) (.bool true))
  have n2_ := Aside0.mk (HP.out n okS1 _ (w2.setCell ⟨tb, 4, none⟩ (.bool true)) HPO.out (by simp [World.setCell]) (fun k hk _ => Below.heap_setCell w2 ⟨tb, 4, none⟩ (.bool true) k (fun e => HD1.out k ((show k = tb from e) ▸ H0.out) hk)))
  have n3_ := Aside0.mk (blk_set HB2.out 4 (.bool true))
  have n4_ : Aside0 (∀ k, okS1 k → k < (w2.setCell ⟨tb, 4, none⟩ (.bool true)).heap.size) := ⟨fun k hk => by simpa [World.setCell] using HBL.out k hk⟩
  clear HI2 HM2 HPO HB2 HBL f4 c4
  generalize w2.setCell ⟨tb, 4, none⟩ (.bool true) = w3 at n0_ n1_ n2_ n3_ n4_ ⊢
  have c1 : w3.cell? ⟨tb, 1, none⟩ = some (.slice Al th.log.length cl) := (blk_cell n3_.out 1).trans rfl
  go_upto_region 12 with (first | ((with_reducible refine gate_builtin (b := .append) (xs := #[.tmp 68, .tmp 70]) rfl ?_); at_builtin; refine Kd.R_append (Kd.int .i64) (w0 := w3) 0 rfl (.tmp 68) (.tmp 70) 24 2 (.int .i64 0) 8 rfl Tryz.underlying24 info64 rfl (by decide) (by omega) (.slice Al th.log.length cl) th.log n [.int .i64 n] (fun k => (okT k ∧ k ≠ tb) ∨ w3.heap.size ≤ k) (fun _ => False) rfl (by first | (go_simp; done) | (go_simp; rfl)) ?aP (fun _ hk => hk.elim) ?aF ?aO ?aB ?aS ?aL ?_; (case aP => exact rfl); (case aF => exact fun k hk => .inr hk); (case aO => exact Kd.R_mono n0_.out.2.2.2.1 (fun k hk => .inl hk)); (case aB => exact Below.refl _ _); (case aS => exact Nat.zero_le _); (case aL => have := hl; omega); intro v5 w5 ho hb5 hg hat; obtain ⟨A5, cc5, rfl⟩ := Kd.R_slice ho; have m0_ := Aside0.mk ho; have m1_ := Aside0.mk hg; have m2_ := Aside0.mk hat; have f1 : w5.frozen? ⟨tb, 1, none⟩ = false := blk_frozen (blk_grown n3_.out hg (fun e => (n0_.out.2.2.2.1.1 tb e.symm).2 rfl)) 1; have c5 : w5.cell? ⟨tb, 1, none⟩ = some (.slice Al th.log.length cl) := (blk_cell (blk_grown n3_.out hg (fun e => (n0_.out.2.2.2.1.1 tb e.symm).2 rfl)) 1).trans rfl; clear ho hb5 hg hat))
  have n5_ := Aside0.mk (n0_.out.log_set (Nat.le_refl _) m1_.out m2_.out m0_.out)
  have n6_ : Aside0 (Moves (fun k => okT k ∨ okS k) (fun k => okT k ∨ okS1 k) w (w5.setCell ⟨tb, 1, none⟩ (.slice A5 (th.log ++ [n]).length cc5))) := ⟨(n1_.out.grown m1_.out (fun k hk => .inl (.inl (n0_.out.2.2.2.1.1 k hk).1))).set (p := ⟨tb, 1, none⟩) (.inl (.inl H0.out)) _⟩
  have n7_ := Aside0.mk (HP.out n okS1 w3 (w5.setCell ⟨tb, 1, none⟩ (.slice A5 (th.log ++ [n]).length cc5)) n2_.out (by simpa [World.setCell] using m1_.out.size) (fun k hk hlt => (Below.heap_setCell w5 ⟨tb, 1, none⟩ _ k (fun e => HD1.out k ((show k = tb from e) ▸ H0.out) hk)).trans (m1_.out.block k hlt (fun e => HD1.out k (n0_.out.2.2.2.1.1 k e.symm).1 hk))))
  have n8_ : Aside0 (∀ k, okS1 k → k < w3.heap.size) := n4_
  have el : (th.log ++ [n]).length = th.log.length + 1 := by simp
  rw [el] at n5_ n6_ n7_
  have n9_ : Aside0 (w3.heap.size ≤ (w5.setCell ⟨tb, 1, none⟩ (.slice A5 (th.log.length + 1) cc5)).heap.size) := ⟨by simpa [World.setCell] using m1_.out.size⟩
  have n10_ : Aside0 (w.heap.size ≤ w3.heap.size) := ⟨n1_.out.size⟩
  have n11_ : Aside0 ((w5.setCell ⟨tb, 1, none⟩ (.slice A5 (th.log.length + 1) cc5)).heap.size = w5.heap.size) := ⟨by simp [World.setCell]⟩
  clear n0_ n1_ n2_ n3_ n4_ m0_ m1_ m2_ el c1
  generalize w5.setCell ⟨tb, 1, none⟩ (.slice A5 (th.log.length + 1) cc5) = w6 at n5_ n6_ n7_ n9_ n11_ ⊢
  have c2 : w6.cell? ⟨tb, 2, none⟩ = some (.int .i64 th.at_) := (blk_cell n5_.out.2.2.1 2).trans rfl
  have f2 : w6.frozen? ⟨tb, 2, none⟩ = false := blk_frozen n5_.out.2.2.1 2
  have hw1 : wrap64 (th.at_ + 1) = th.at_ + 1 := by have := HT.out; unfold wrap64; omega
  go_wp2_with fail
  go_ret
  refine ⟨n, rfl, _, ⟨_, _, _, n5_.out.at_set (th.at_ + 1)⟩, okS1, ?_, ?_, ?_⟩
  · exact HP.out n okS1 w6 _ n7_.out (by simp [World.setCell]) (fun k hk _ => Below.heap_setCell w6 ⟨tb, 2, none⟩ _ k (fun e => HD1.out k ((show k = tb from e) ▸ H0.out) hk))
  · rintro k (hk | hk) hk1
    · exact HD1.out k hk hk1
    · have := n8_.out k hk1
      omega
  · refine (n6_.out.set (p := ⟨tb, 2, none⟩) (.inl (.inl H0.out)) _).owns ?_
    rintro k ((hk | hk) | hk)
    · exact .inl (.inl hk)
    · have := n10_.out
      exact .inr (by omega)
    · exact n6_.out.fresh k (.inr hk)
end Go.Proofs.YtchjjoepikcmfaaGreat.Tower
