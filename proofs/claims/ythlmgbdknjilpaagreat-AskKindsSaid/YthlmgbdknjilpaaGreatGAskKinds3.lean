/- Words and contracts that the claim stands on, part 4 of 7. -/
import Derived.Test.YthlmgbdknjilpaaGreatProg
import Derived.Test.YthlmgbdknjilpaaGreatGAskKinds0
import Derived.Test.YthlmgbdknjilpaaGreatGAskKinds1
import Derived.Test.YthlmgbdknjilpaaGreatGAskKinds2
import Derived.Deep.Cut
import Derived.Deep.CutRange
import Derived.Deep.CutBlock
import Derived.Deep.LoopGhost
import Derived.OwnWalk
import Derived.Deep.Slices
import Derived.Deep.SlicePairs
import Derived.Lib.SmallJoins
import Derived.OpenShut
import Derived.Laws.StructEq
import Derived.Below
import Derived.Deep.Draws
import Derived.Deep.AppendLies
import Derived.Maps.AppendAt
import Derived.Laws.BytesArg
import Derived.Laws.MakeOwn
import Derived.Laws.OwnMore
import Derived.Deep.OwnRows
import Derived.Tactics
import Derived.Lib.ConvBytes
import Derived.Laws.Slices
import Derived.WalkKit
import Derived.KernelRfl
import Derived.RowKit3
import Derived.Deep.QuietTactic
import Derived.BigQuiet
import Derived.WideLaws
import Derived.Deep.DeepCutAuto
import Derived.Deep.RegionHeld3
import Derived.Laws.Rows
import Derived.Lib.AppendStr
import Derived.ArgAppend
import Derived.Laws.IdiomCopy
import Derived.OrdersHeld
import Derived.Laws.BitsLemmas
import Derived.RowKit
namespace Go.Proofs.YthlmgbdknjilpaaGreat.Tower
open Go Go.RowKit Go.Proofs.YthlmgbdknjilpaaGreatW.PrintWords Go.Proofs.YthlmgbdknjilpaaGreatW.PrintLast Go.Proofs.YthlmgbdknjilpaaGreatW.PrintMore Go.Proofs.YthlmgbdknjilpaaGreat.Own
set_option linter.unusedVariables false
set_option linter.unusedSimpArgs false
theorem prBind_assoc {X α β γ : Type} {m : Pr X α} {f : α → Pr X β} {g : β → Pr X γ} {s : TS X} {res : Out γ × TS X} (h : prBind (prBind m f) g s = some res) : prBind m (fun a => prBind (f a) g) s = some res := by
  unfold prBind at h ⊢
  cases hm : m s with
  | none => simp only [hm] at h; cases h
  | some r =>
    obtain ⟨o, t⟩ := r
    cases o with
    | wait => simp only [hm] at h ⊢; exact h
    | ret a => simp only [hm] at h ⊢; exact h
structure BegAt (p tb : Nat) (work : Value) (me : Int) (bt : Nat) (ok : Nat → Prop) (w : World) (bn : Nat) (n : Int) (rest : Pr Ws Unit) (res : Out Unit × TS Ws) (wc : World) : Prop where
  out : ∃ okc s, TaskAt p tb work me bt ok w okc s wc ∧ Mine okc wc bn (boxI n) ∧ bn ≠ bt ∧ w.heap.size ≤ bn ∧ rest s = some res
def TBegin1 : Bool × List (List Nat × List Nat) := (true, [([], []), ([0], [0]), ([], []), ([2], [2]), ([3], [3]), ([4], [4]), ([5], [5]), ([6], [6]), ([1, 7], [1, 7]), ([], []), ([9, 8, 8, 0, 1, 2, 3, 4, 5, 6, 7, 8, 9], [8, 9])])
def BBegin1 : List Nat := [0, 1, 0, 4, 12, 28, 60, 124, 255, 0, 1023]
theorem tabBegin1 : rtab .any (opsOf Tryz.f40 1) = TBegin1 := by kernel_rfl
theorem bitsBegin1 : waitsOk TBegin1.2 BBegin1 = true := by kernel_rfl
def TBegin13 : Bool × List (List Nat × List Nat) := (true, [([], []), ([0], [0]), ([], []), ([2], [2]), ([3], [3]), ([4], [4]), ([5], [5]), ([6], [6]), ([1, 7], [1, 7]), ([8, 8, 0, 1, 2, 3, 4, 5, 6, 7, 8], [8])])
def BBegin13 : List Nat := [0, 1, 0, 4, 12, 28, 60, 124, 255, 511]
theorem tabBegin13 : rtab .any (opsOf Tryz.f40 13) = TBegin13 := by kernel_rfl
theorem bitsBegin13 : waitsOk TBegin13.2 BBegin13 = true := by kernel_rfl
set_option maxHeartbeats 4000000 in
set_option maxRecDepth 100000 in
theorem begin_calls (p tb : Nat) (work : Value) (me : Int) (ok : Nat → Prop) (s : TS Ws) (w : World) (f : Nat) (h : IsRun (shW p) tb work ok s w) (res : Out Unit × TS Ws) (hr : beginT me f s = some res) :
    Calls Tryz.prog 40 #[taskV tb p me] w (TPost (shW p) tb work VUnit ok w res) := by
  have HT := Aside0.mk (TaskAt.enter (me := me) h)
  have HR := Aside0.mk hr
  have HWT : Aside0 (w.heap.size < (w.alloc (taskO tb p me)).heap.size) := ⟨by simp⟩
  have HTV : taskV tb p me = .agg #[.pointer (some ⟨tb, 0, none⟩), .pointer (some ⟨p, 0, none⟩), .int .i64 me] := rfl
  rw [HTV]
  have HTO : taskO tb p me = .cells #[.pointer (some ⟨tb, 0, none⟩), .pointer (some ⟨p, 0, none⟩), .int .i64 me] 84 := rfl
  rw [HTO] at HT HWT
  clear h hr HTV HTO
  go_enter Tryz.func40, Tryz.ntmps40
  go_upto_region 1 with fail
  generalize w.alloc (.cells #[.pointer (some ⟨tb, 0, none⟩), .pointer (some ⟨p, 0, none⟩), .int .i64 me] 84) = w1 at HT HWT ⊢
  generalize hbb : w.heap.size = bt at HT HWT ⊢
  have HBT : Aside0 (w.heap.size ≤ bt) := ⟨by omega⟩
  clear hbb
  go_cut [2] from 6 (fun v2 wc => ∃ (bn : Nat) (n : Int), v2 = .pointer (some ⟨bn, 0, none⟩) ∧ Aside0 (BegAt p tb work me bt ok w bn n (beg1 me n f) res wc))
  case first =>
    obtain ⟨pE, hpE⟩ := HT.out.pE
    have HC := Aside0.mk (And.intro HT.out.c0 (And.intro HT.out.c1 hpE))
    clear hpE
    refine start_ (n := 11) (S := fun w' => w'.cell? ⟨bt, 0, none⟩ = some (.pointer (some ⟨tb, 0, none⟩)) ∧ w'.cell? ⟨bt, 1, none⟩ = some (.pointer (some ⟨p, 0, none⟩)) ∧ w'.cell? ⟨p, 2, none⟩ = some (.pointer (some ⟨pE, 0, none⟩))) (ds := [8, 10]) #[N_,N_,N_,N_,N_,N_,N_,N_,N_,N_,N_] (by kernel_rfl) rfl rfl HC.out (fun hHeld => ?_); refine with_tabW tabBegin1 bitsBegin1 (fun HT_ HW_ => ?_)
    have HT := Aside0.mk HT.out.drew
    have HWT : Aside0 (bt < w1.drew.heap.size) := HWT
    clear HC
    generalize World.drew _ = w1 at HT HWT hHeld ⊢
    refine pure_ (i := 0) (N := (some 6)) (v := ?_) (a' := ?_) #[Y_,N_,N_,N_,N_,N_,N_,N_,N_,N_,N_] rfl rfl (any_of HT_.out (by kernel_rfl)) (fun _ _ _ h => h) (Or.inl ⟨by rfl, ?_⟩) ?_ ?_
    rotate_left; · intro w'; go_simp; with_reducible rfl
    rotate_left; · simp only [Act.put, u1_, u2_, u3_, i64_w, i32_w]; rfl
    refine take_ (i := 1) (N := (some 7)) (v := ?_) (a' := ?_) #[Y_,Y_,N_,N_,N_,N_,N_,N_,N_,N_,N_] rfl rfl (take_ofW HT_.out HW_.out (by kernel_rfl)) (fun _ _ _ h => h) (Or.inl ⟨by rfl, ?_⟩) hHeld ?_ ?_
    rotate_left; · rintro w' ⟨s0, s1, s2⟩; go_simp; with_reducible rfl
    rotate_left; · simp only [Act.put, u1_, u2_, u3_, i64_w, i32_w]; rfl
    refine pure_ (i := 2) (N := (some 8)) (v := ?_) (a' := ?_) #[Y_,Y_,Y_,N_,N_,N_,N_,N_,N_,N_,N_] rfl rfl (any_of HT_.out (by kernel_rfl)) (fun _ _ _ h => h) (Or.inl ⟨by rfl, ?_⟩) ?_ ?_
    rotate_left; · intro w'; go_simp; with_reducible rfl
    rotate_left; · simp only [Act.put, u1_, u2_, u3_, i64_w, i32_w]; rfl
    refine take_ (i := 3) (N := (some 9)) (v := ?_) (a' := ?_) #[Y_,Y_,Y_,Y_,N_,N_,N_,N_,N_,N_,N_] rfl rfl (take_ofW HT_.out HW_.out (by kernel_rfl)) (fun _ _ _ h => h) (Or.inl ⟨by rfl, ?_⟩) hHeld ?_ ?_
    rotate_left; · rintro w' ⟨s0, s1, s2⟩; go_simp; with_reducible rfl
    rotate_left; · simp only [Act.put, u1_, u2_, u3_, i64_w, i32_w]; rfl
    refine pure_ (i := 4) (N := (some 10)) (v := ?_) (a' := ?_) #[Y_,Y_,Y_,Y_,Y_,N_,N_,N_,N_,N_,N_] rfl rfl (any_of HT_.out (by kernel_rfl)) (fun _ _ _ h => h) (Or.inl ⟨by rfl, ?_⟩) ?_ ?_
    rotate_left; · intro w'; go_simp; with_reducible rfl
    rotate_left; · simp only [Act.put, u1_, u2_, u3_, i64_w, i32_w]; rfl
    refine pure_ (i := 5) (N := (some 11)) (v := ?_) (a' := ?_) #[Y_,Y_,Y_,Y_,Y_,Y_,N_,N_,N_,N_,N_] rfl rfl (any_of HT_.out (by kernel_rfl)) (fun _ _ _ h => h) (Or.inl ⟨by rfl, ?_⟩) ?_ ?_
    rotate_left; · intro w'; go_simp; with_reducible rfl
    rotate_left; · simp only [Act.put, u1_, u2_, u3_, i64_w, i32_w]; rfl
    refine take_ (i := 6) (N := (some 12)) (v := ?_) (a' := ?_) #[Y_,Y_,Y_,Y_,Y_,Y_,Y_,N_,N_,N_,N_] rfl rfl (take_ofW HT_.out HW_.out (by kernel_rfl)) (fun _ _ _ h => h) (Or.inl ⟨by rfl, ?_⟩) hHeld ?_ ?_
    rotate_left; · rintro w' ⟨s0, s1, s2⟩; go_simp; with_reducible rfl
    rotate_left; · simp only [Act.put, u1_, u2_, u3_, i64_w, i32_w]; rfl
    refine pure_ (i := 7) (N := (some 13)) (v := ?_) (a' := ?_) #[Y_,Y_,Y_,Y_,Y_,Y_,Y_,Y_,N_,N_,N_] rfl rfl (any_of HT_.out (by kernel_rfl)) (fun _ _ _ h => h) (Or.inl ⟨by rfl, ?_⟩) ?_ ?_
    rotate_left; · intro w'; go_simp; with_reducible rfl
    rotate_left; · simp only [Act.put, u1_, u2_, u3_, i64_w, i32_w]; rfl
    obtain ⟨o, t, hd, hcase⟩ := prBind_some HR.out
    refine twoK_ (i := 8) (j := 9) (Ni := some 14) (Nj := some 2) #[Y_,Y_,Y_,Y_,Y_,Y_,Y_,Y_,Y_,N_,N_] #[Y_,Y_,Y_,Y_,Y_,Y_,Y_,Y_,N_,Y_,N_] rfl rfl rfl rfl (by kernel_rfl) (fun K_ hK => ?_) (fun K_ hK => ?_)
    · refine callP_ 61 #[.pointer (some ⟨tb, 0, none⟩), .func (.func 19) #[.pointer (some ⟨pE, 0, none⟩)] #[]] (by rfl) rfl ?hr8 ?_
      (case hr8 => first | (go_simp; done) | (go_simp; exact enters Tryz.func61 (by kernel_rfl) rfl _ _))
      refine (HT.out.now_ hHeld.2.2 hd).mono ?_
      rintro e w2 ⟨⟨ok1, hm, hT, he⟩⟩
      rcases hcase with ⟨rfl, rfl⟩ | ⟨n, rfl, hr2⟩
      · obtain rfl : e = .panicked waitP := he
        exact .inr ⟨waitP, rfl, rfl, ⟨⟨ok1, hT.moves, hT.run, rfl⟩⟩⟩
      · obtain rfl : e = .returned (intV n) := he
        refine .inl ⟨.int .i64 n, rfl, ?_⟩
        refine hK.out _ _ (fun h => absurd (by decide) h) ?_
        clear hK K_
        refine norm_ (a' := ?_) ?_ ?_
        rotate_left; · show Act.put _ (some 14) _ = _; simp only [Act.put, u1_, u2_, u3_, i64_w, i32_w]; rfl
        refine oneK_ (i := 9) (N := some 2) #[Y_,Y_,Y_,Y_,Y_,Y_,Y_,Y_,Y_,Y_,N_] rfl rfl (by kernel_rfl) (fun K_ hK => ?_)
        refine value_ (v := .pointer (some ⟨w2.heap.size, 0, none⟩)) (w1 := w2.alloc (boxI 0)) (by rfl) rfl ?ha9 ?_
        (case ha9 => go_simp; first | done | rfl)
        refine hK.out _ _ (fun _ hS => ⟨pw_cell_below (below_alloc (Below.refl _ _) _) hS.1, pw_cell_below (below_alloc (Below.refl _ _) _) hS.2.1, pw_cell_below (below_alloc (Below.refl _ _) _) hS.2.2⟩) ?_
        clear hK K_
        refine norm_ (a' := ?_) ?_ ?_
        rotate_left; · show Act.put _ (some 2) _ = _; simp only [Act.put, u1_, u2_, u3_, i64_w, i32_w]; rfl
        have HB := Aside0.mk (Mine.new hT.lt (boxI 0))
        have HT2 := Aside0.mk (hT.alloc (boxI 0))
        have HBN : Aside0 (w2.heap.size ≠ bt) := ⟨by have := hT.box.lt; omega⟩
        have HBW : Aside0 (w.heap.size ≤ w2.heap.size) := ⟨hT.moves.size⟩
        have HR2 := Aside0.mk hr2
        generalize w2.heap.size = bn at HB HBN HBW ⊢
        generalize w2.alloc (boxI 0) = w3 at HB HT2 ⊢
        generalize ok1 = okc at HB HT2
        clear hm hT hr2
        have k0 := (blk_cell HB.out.1 0).trans (rfl : _ = some (Value.int .i64 0))
        have z0 := blk_frozen HB.out.1 0
        refine last_ (i := 10) (N := none) #[Y_,Y_,Y_,Y_,Y_,Y_,Y_,Y_,Y_,Y_,Y_] rfl rfl (by kernel_rfl) (by decide) (fun K_ hK => ?_)
        refine skip_ (w1 := w3.setCell ⟨bn, 0, none⟩ (.int .i64 n)) (by rfl) rfl ?_ ?_
        · go_simp
        refine hK.out _ _ ?_
        clear hK K_
        refine done_ (by kernel_rfl) ?_
        go_wp2_with fail
        go_meet
        case rel =>
          exact ⟨bn, n, rfl, ⟨⟨okc, t, HT2.out.set HB.out.2 HBW.out HBN.out _, HB.out.set 0 _, HBN.out, HBW.out, HR2.out⟩⟩⟩
    · refine value_ (v := .pointer (some ⟨w1.heap.size, 0, none⟩)) (w1 := w1.alloc (boxI 0)) (by rfl) rfl ?hb9 ?_
      (case hb9 => go_simp; first | done | rfl)
      refine hK.out _ _ (fun _ hS => ⟨pw_cell_below (below_alloc (Below.refl _ _) _) hS.1, pw_cell_below (below_alloc (Below.refl _ _) _) hS.2.1, pw_cell_below (below_alloc (Below.refl _ _) _) hS.2.2⟩) ?_
      clear hK K_
      refine norm_ (a' := ?_) ?_ ?_
      rotate_left; · show Act.put _ (some 2) _ = _; simp only [Act.put, u1_, u2_, u3_, i64_w, i32_w]; rfl
      have HBN : Aside0 (w1.heap.size ≠ bt) := ⟨by have := HT.out.box.lt; omega⟩
      have HBW : Aside0 (w.heap.size ≤ w1.heap.size) := ⟨HT.out.moves.size⟩
      have HB := Aside0.mk (Mine.new HT.out.lt (boxI 0))
      have HT := Aside0.mk (HT.out.alloc (boxI 0))
      have hHeld : (_ ∧ _ ∧ _) := ⟨pw_cell_below (below_alloc (Below.refl _ _) (boxI 0)) hHeld.1, pw_cell_below (below_alloc (Below.refl _ _) (boxI 0)) hHeld.2.1, pw_cell_below (below_alloc (Below.refl _ _) (boxI 0)) hHeld.2.2⟩
      generalize w1.heap.size = bn at HB HBN HBW ⊢
      generalize w1.alloc (boxI 0) = w1 at HB HT hHeld ⊢
      refine oneK_ (i := 8) (N := some 14) #[Y_,Y_,Y_,Y_,Y_,Y_,Y_,Y_,Y_,Y_,N_] rfl rfl (by kernel_rfl) (fun K_ hK => ?_)
      refine callP_ 61 #[.pointer (some ⟨tb, 0, none⟩), .func (.func 19) #[.pointer (some ⟨pE, 0, none⟩)] #[]] (by rfl) rfl ?hr8b ?_
      (case hr8b => first | (go_simp; done) | (go_simp; exact enters Tryz.func61 (by kernel_rfl) rfl _ _))
      refine (HT.out.now_ hHeld.2.2 hd).mono ?_
      rintro e w2 ⟨⟨ok1, hm, hT, he⟩⟩
      rcases hcase with ⟨rfl, rfl⟩ | ⟨n, rfl, hr2⟩
      · obtain rfl : e = .panicked waitP := he
        exact .inr ⟨waitP, rfl, rfl, ⟨⟨ok1, hT.moves, hT.run, rfl⟩⟩⟩
      · obtain rfl : e = .returned (intV n) := he
        refine .inl ⟨.int .i64 n, rfl, ?_⟩
        refine hK.out _ _ (fun h => absurd (by decide) h) ?_
        clear hK K_
        refine norm_ (a' := ?_) ?_ ?_
        rotate_left; · show Act.put _ (some 14) _ = _; simp only [Act.put, u1_, u2_, u3_, i64_w, i32_w]; rfl
        have HB := Aside0.mk (HB.out.moves hm)
        have HT2 := Aside0.mk hT
        have HR2 := Aside0.mk hr2
        generalize ok1 = okc at HB HT2
        generalize w2 = w3 at HB HT2 ⊢
        clear hm hT hr2
        have k0 := (blk_cell HB.out.1 0).trans (rfl : _ = some (Value.int .i64 0))
        have z0 := blk_frozen HB.out.1 0
        refine last_ (i := 10) (N := none) #[Y_,Y_,Y_,Y_,Y_,Y_,Y_,Y_,Y_,Y_,Y_] rfl rfl (by kernel_rfl) (by decide) (fun K_ hK => ?_)
        refine skip_ (w1 := w3.setCell ⟨bn, 0, none⟩ (.int .i64 n)) (by rfl) rfl ?_ ?_
        · go_simp
        refine hK.out _ _ ?_
        clear hK K_
        refine done_ (by kernel_rfl) ?_
        go_wp2_with fail
        go_meet
        case rel =>
          exact ⟨bn, n, rfl, ⟨⟨okc, t, HT2.out.set HB.out.2 HBW.out HBN.out _, HB.out.set 0 _, HBN.out, HBW.out, HR2.out⟩⟩⟩
  case rest =>
    obtain ⟨bn, n, rfl, HB⟩ := hcut
    obtain ⟨okc, s2, hT, hbn, hnt, hwn, hr⟩ := HB.out.out
    obtain ⟨o, t, hd, hcase⟩ := prBind_some hr
    have c0 := hT.c0
    have HT := Aside0.mk hT
    have HBN := Aside0.mk hbn
    have HNT := Aside0.mk hnt
    have HWN := Aside0.mk hwn
    have HD := Aside0.mk hd
    have HCS := Aside0.mk hcase
    clear HB hT hbn hnt hwn hr hd hcase
    go_upto_region 3 with (go_at_call 61; refine (HT.out.say_ HBN.out HD.out).mono ?_; rintro e w2 ⟨⟨ok1, hm, hT, he⟩⟩; rcases HCS.out with hw | hw; (obtain ⟨rfl, rfl⟩ := hw; obtain rfl : e = .panicked waitP := he; exact ⟨rfl, ⟨⟨ok1, hT.moves, hT.run, rfl⟩⟩⟩); obtain ⟨a0, rfl, hr2⟩ := hw; obtain rfl : e = .returned (.int .i64 a0) := he; have HT2 := Aside0.mk hT; have HR2 := Aside0.mk hr2; have HBN := Aside0.mk (HBN.out.moves hm); clear hm hT hr2)
    obtain ⟨pE, hpE⟩ := HT2.out.pE
    have c1 := HT2.out.c1
    have hfew := HT2.out.few
    generalize hL : t.sh.ep.said.length = L at hfew
    have HL := Aside0.mk hL
    have HR3 : Aside0 (prBind (allT n L 0) (beg2 me n f) t = some res) := ⟨by rw [← hL]; exact HR2.out⟩
    have HB := Aside0.mk (BegAt.mk ⟨_, _, HT2.out, HBN.out, HNT.out, HWN.out, HR3.out⟩)
    clear c0 HT HD HCS HR HR2 HR3 hL
    go_upto_block 0 with (go_at_call 64; refine (HT2.out.len_ hpE).mono ?_; rintro e w2 ⟨rfl, rfl⟩; rw [HL.out])
    clear HBN HT2 HL hpE c1
    go_cut [3] from 26 (fun v3 wc => ∃ b : Bool, v3 = .bool b ∧ Aside0 (BegAt p tb work me bt ok w bn n (beg2 me n f b) res wc))
    case first =>
      go_wp2_with fail
      go_loopg [3, 25] L (fun g v3 v25 wr => v3 = .bool true ∧ ∃ k : Nat, v25 = .int .i64 k ∧ k + g = L ∧ Aside0 (BegAt p tb work me bt ok w bn n (prBind (allT n g k) (beg2 me n f)) res wr))
      case atStart => exact ⟨rfl, 0, rfl, by omega, HB⟩
      case round =>
        obtain ⟨rfl, k, rfl, hkg, HQ⟩ := hrel
        clear HB
        cases gk with
        | zero =>
          have d1 : decide ((k : Int) < (L : Int)) = false := decide_eq_false (by omega)
          have d2 : decide (k < L) = false := decide_eq_false (by omega)
          go_wp2_with fail
          go_meet
          case rel => exact ⟨true, rfl, HQ⟩
        | succ g =>
          have d1 : decide ((k : Int) < (L : Int)) = true := decide_eq_true (by omega)
          have d2 : decide (k < L) = true := decide_eq_true (by omega)
          obtain ⟨okc, s3, hT, hbn, hnt, hwn, hr⟩ := HQ.out.out
          obtain ⟨o, t4, hd, hcase⟩ := prBind_some (prBind_assoc hr)
          have HT := Aside0.mk (hT.alloc (boxK (k : Int)))
          have HBN := Aside0.mk (hbn.alloc (boxK (k : Int)))
          have HBK := Aside0.mk (Mine.new hT.lt (boxK (k : Int)))
          have HD := Aside0.mk hd
          have HCS := Aside0.mk hcase
          clear hT hbn hnt hwn hr hd hcase HQ
          go_upto_region 7 with fail
          have HBX : boxK (k : Int) = .cells #[.int .i64 (k : Int)] 3 := rfl
          rw [HBX] at HT HBN HBK
          generalize wr.alloc (.cells #[.int .i64 (k : Int)] 3) = w3 at HT HBN HBK ⊢
          generalize wr.heap.size = bk at HBK ⊢
          have c0 := HT.out.c0
          have k0 := (blk_cell HBN.out.1 0).trans (rfl : _ = some (Value.int .i64 n))
          go_upto_region 8 with (go_at_call 61; refine (HT.out.said_ HBK.out HD.out).mono ?_; rintro e w2 ⟨⟨ok1, hm, hT, he⟩⟩; rcases HCS.out with hw | hw; (obtain ⟨rfl, rfl⟩ := hw; obtain rfl : e = .panicked waitP := he; exact ⟨rfl, ⟨⟨ok1, hT.moves, hT.run, rfl⟩⟩⟩); obtain ⟨a0, rfl, hr2⟩ := hw; obtain rfl : e = .returned (.int .i64 a0) := he; have HT2 := Aside0.mk hT; have HR2 := Aside0.mk hr2; have HBN := Aside0.mk (HBN.out.moves hm); clear hm hT hr2)
          clear k0
          have k0 := (blk_cell HBN.out.1 0).trans (rfl : _ = some (Value.int .i64 n))
          have hw1 : wrap64 ((k : Int) + 1) = ((k + 1 : Nat) : Int) := by unfold wrap64; omega
          by_cases ha : a0 = -1
          · have hb1 : (a0 == -1) = true := by simp [ha]
            have hb2 : (a0 != -1) = false := by simp [ha]
            have HR4 : Aside0 (prBind (allT n g (k + 1)) (beg2 me n f) t4 = some res) := ⟨by have h := HR2.out; rw [if_neg (by simp [ha])] at h; exact h⟩
            clear ha
            go_wp2_with fail
            go_roundg g
            case rel => exact ⟨rfl, k + 1, by first | rfl | (rw [hw1]), by omega, ⟨⟨_, _, HT2.out, HBN.out, HNT.out, HWN.out, HR4.out⟩⟩⟩
            case measure => omega
          · have hb1 : (a0 == -1) = false := by simpa using ha
            have hb2 : (a0 != -1) = true := by simpa using ha
            by_cases hn : a0 = n
            · have hb3 : (a0 == n) = true := by simp [hn]
              have hb4 : (a0 != n) = false := by simp [hn]
              have HR4 : Aside0 (prBind (allT n g (k + 1)) (beg2 me n f) t4 = some res) := ⟨by have h := HR2.out; rw [if_neg (by simp [hn])] at h; exact h⟩
              clear ha hn
              go_wp2_with fail
              go_roundg g
              case rel => exact ⟨rfl, k + 1, by first | rfl | (rw [hw1]), by omega, ⟨⟨_, _, HT2.out, HBN.out, HNT.out, HWN.out, HR4.out⟩⟩⟩
              case measure => omega
            · have hb3 : (a0 == n) = false := by simpa using hn
              have hb4 : (a0 != n) = true := by simpa using hn
              have HR4 : Aside0 (beg2 me n f false t4 = some res) := ⟨by have h := HR2.out; rw [if_pos ⟨ha, hn⟩] at h; exact h⟩
              clear ha hn
              go_wp2_with fail
              go_meet
              case rel => exact ⟨false, rfl, ⟨⟨_, _, HT2.out, HBN.out, HNT.out, HWN.out, HR4.out⟩⟩⟩
    case rest =>
    obtain ⟨b, rfl, HB2⟩ := hcut
    clear HB HNT HWN
    go_upto_if 40 with fail
    go_cut [] from 40 (fun wc => Aside0 (BegAt p tb work me bt ok w bn n (beg3 me f) res wc))
    case first =>
      cases b with
      | false =>
        go_wp2_with fail
        go_meet
        case rel => exact HB2
      | true =>
        obtain ⟨okc, s3, hT, hbn, hnt, hwn, hr⟩ := HB2.out.out
        obtain ⟨o, t4, hd, hcase⟩ := prBind_some hr
        have c0 := hT.c0
        have HT := Aside0.mk hT
        have HBN := Aside0.mk hbn
        have HNT := Aside0.mk hnt
        have HWN := Aside0.mk hwn
        have HD := Aside0.mk hd
        have HCS := Aside0.mk hcase
        clear hT hbn hnt hwn hr hd hcase HB2
        go_wp2_with (go_at_call 67; refine (HT.out.swap_ HBN.out HD.out).mono ?_; rintro e w2 ⟨⟨ok1, hm, hT, he⟩⟩; rcases HCS.out with hw | hw; (obtain ⟨rfl, rfl⟩ := hw; obtain rfl : e = .panicked waitP := he; exact ⟨rfl, ⟨⟨ok1, hT.moves, hT.run, rfl⟩⟩⟩); obtain ⟨a1, rfl, hr2⟩ := hw; obtain rfl : e = .returned (.bool a1) := he; have HT2 := Aside0.mk hT; have HR2 := Aside0.mk hr2; have HBN := Aside0.mk (HBN.out.moves hm); clear hm hT hr2)
        go_meet
        case rel => exact ⟨⟨_, _, HT2.out, HBN.out, HNT.out, HWN.out, HR2.out⟩⟩
    case rest =>
    obtain ⟨okc, s3, hT, hbn, hnt, hwn, hr⟩ := hcut.out.out
    obtain ⟨o, t, hd, hcase⟩ := prBind_some hr
    obtain ⟨pE2, hpE⟩ := hT.pE
    have HC := Aside0.mk (And.intro hT.c0 (And.intro hT.c1 hpE))
    have HT := Aside0.mk hT
    have HBN := Aside0.mk hbn
    have HNT := Aside0.mk hnt
    have HWN := Aside0.mk hwn
    clear hT hbn hnt hwn hr hpE hcut HB2
    go_upto_region 13 with fail
    refine start_ (n := 10) (S := fun w' => w'.cell? ⟨bt, 0, none⟩ = some (.pointer (some ⟨tb, 0, none⟩)) ∧ w'.cell? ⟨bt, 1, none⟩ = some (.pointer (some ⟨p, 0, none⟩)) ∧ w'.cell? ⟨p, 2, none⟩ = some (.pointer (some ⟨pE2, 0, none⟩))) (ds := [8, 9]) #[N_,N_,N_,N_,N_,N_,N_,N_,N_,N_] (by kernel_rfl) rfl rfl HC.out (fun hHeld => ?_); refine with_tabW tabBegin13 bitsBegin13 (fun HT_ HW_ => ?_)
    have HT := Aside0.mk HT.out.drew
    have HBN := Aside0.mk (HBN.out.moves ((Moves.refl _ _).drew))
    clear HC
    generalize World.drew _ = w1 at HT HBN hHeld ⊢
    refine pure_ (i := 0) (N := (some 45)) (v := ?_) (a' := ?_) #[Y_,N_,N_,N_,N_,N_,N_,N_,N_,N_] rfl rfl (any_of HT_.out (by kernel_rfl)) (fun _ _ _ h => h) (Or.inl ⟨by rfl, ?_⟩) ?_ ?_
    rotate_left; · intro w'; go_simp; with_reducible rfl
    rotate_left; · simp only [Act.put, u1_, u2_, u3_, i64_w, i32_w]; rfl
    refine take_ (i := 1) (N := (some 46)) (v := ?_) (a' := ?_) #[Y_,Y_,N_,N_,N_,N_,N_,N_,N_,N_] rfl rfl (take_ofW HT_.out HW_.out (by kernel_rfl)) (fun _ _ _ h => h) (Or.inl ⟨by rfl, ?_⟩) hHeld ?_ ?_
    rotate_left; · rintro w' ⟨s0, s1, s2⟩; go_simp; with_reducible rfl
    rotate_left; · simp only [Act.put, u1_, u2_, u3_, i64_w, i32_w]; rfl
    refine pure_ (i := 2) (N := (some 47)) (v := ?_) (a' := ?_) #[Y_,Y_,Y_,N_,N_,N_,N_,N_,N_,N_] rfl rfl (any_of HT_.out (by kernel_rfl)) (fun _ _ _ h => h) (Or.inl ⟨by rfl, ?_⟩) ?_ ?_
    rotate_left; · intro w'; go_simp; with_reducible rfl
    rotate_left; · simp only [Act.put, u1_, u2_, u3_, i64_w, i32_w]; rfl
    refine take_ (i := 3) (N := (some 48)) (v := ?_) (a' := ?_) #[Y_,Y_,Y_,Y_,N_,N_,N_,N_,N_,N_] rfl rfl (take_ofW HT_.out HW_.out (by kernel_rfl)) (fun _ _ _ h => h) (Or.inl ⟨by rfl, ?_⟩) hHeld ?_ ?_
    rotate_left; · rintro w' ⟨s0, s1, s2⟩; go_simp; with_reducible rfl
    rotate_left; · simp only [Act.put, u1_, u2_, u3_, i64_w, i32_w]; rfl
    refine pure_ (i := 4) (N := (some 49)) (v := ?_) (a' := ?_) #[Y_,Y_,Y_,Y_,Y_,N_,N_,N_,N_,N_] rfl rfl (any_of HT_.out (by kernel_rfl)) (fun _ _ _ h => h) (Or.inl ⟨by rfl, ?_⟩) ?_ ?_
    rotate_left; · intro w'; go_simp; with_reducible rfl
    rotate_left; · simp only [Act.put, u1_, u2_, u3_, i64_w, i32_w]; rfl
    refine pure_ (i := 5) (N := (some 50)) (v := ?_) (a' := ?_) #[Y_,Y_,Y_,Y_,Y_,Y_,N_,N_,N_,N_] rfl rfl (any_of HT_.out (by kernel_rfl)) (fun _ _ _ h => h) (Or.inl ⟨by rfl, ?_⟩) ?_ ?_
    rotate_left; · intro w'; go_simp; with_reducible rfl
    rotate_left; · simp only [Act.put, u1_, u2_, u3_, i64_w, i32_w]; rfl
    refine take_ (i := 6) (N := (some 51)) (v := ?_) (a' := ?_) #[Y_,Y_,Y_,Y_,Y_,Y_,Y_,N_,N_,N_] rfl rfl (take_ofW HT_.out HW_.out (by kernel_rfl)) (fun _ _ _ h => h) (Or.inl ⟨by rfl, ?_⟩) hHeld ?_ ?_
    rotate_left; · rintro w' ⟨s0, s1, s2⟩; go_simp; with_reducible rfl
    rotate_left; · simp only [Act.put, u1_, u2_, u3_, i64_w, i32_w]; rfl
    refine pure_ (i := 7) (N := (some 52)) (v := ?_) (a' := ?_) #[Y_,Y_,Y_,Y_,Y_,Y_,Y_,Y_,N_,N_] rfl rfl (any_of HT_.out (by kernel_rfl)) (fun _ _ _ h => h) (Or.inl ⟨by rfl, ?_⟩) ?_ ?_
    rotate_left; · intro w'; go_simp; with_reducible rfl
    rotate_left; · simp only [Act.put, u1_, u2_, u3_, i64_w, i32_w]; rfl
    refine last_ (i := 8) (N := some 53) #[Y_,Y_,Y_,Y_,Y_,Y_,Y_,Y_,Y_,N_] rfl rfl (by kernel_rfl) (by decide) (fun K_ hK => ?_)
    refine callP_ 61 #[.pointer (some ⟨tb, 0, none⟩), .func (.func 19) #[.pointer (some ⟨pE2, 0, none⟩)] #[]] (by rfl) rfl ?hr13 ?_
    (case hr13 => first | (go_simp; done) | (go_simp; exact enters Tryz.func61 (by kernel_rfl) rfl _ _))
    refine (HT.out.now_ hHeld.2.2 hd).mono ?_
    rintro e w2 ⟨⟨ok1, hm, hT, he⟩⟩
    rcases hcase with ⟨rfl, rfl⟩ | ⟨n2, rfl, hr3⟩
    · obtain rfl : e = .panicked waitP := he
      exact .inr ⟨waitP, rfl, rfl, ⟨⟨ok1, hT.moves, hT.run, rfl⟩⟩⟩
    · obtain rfl : e = .returned (.int .i64 n2) := he
      refine .inl ⟨.int .i64 n2, rfl, ?_⟩
      refine hK.out _ _ ?_
      clear hK K_
      refine norm_ (a' := ?_) ?_ ?_
      rotate_left; · show Act.put _ (some 53) _ = _; simp only [Act.put, u1_, u2_, u3_, i64_w, i32_w]; rfl
      have HT2 := Aside0.mk hT
      have HR2 := Aside0.mk hr3
      have HBN := Aside0.mk (HBN.out.moves hm)
      have k0 := (blk_cell HBN.out.1 0).trans (rfl : _ = some (Value.int .i64 n))
      have z0 := blk_frozen HBN.out.1 0
      clear hT hr3 hm
      refine last_ (i := 9) (N := none) #[Y_,Y_,Y_,Y_,Y_,Y_,Y_,Y_,Y_,Y_] rfl rfl (by kernel_rfl) (by decide) (fun K_ hK => ?_)
      refine skip_ (w1 := w2.setCell ⟨bn, 0, none⟩ (.int .i64 n2)) (by rfl) rfl ?_ ?_
      · go_simp
      refine hK.out _ _ ?_
      clear hK K_ k0 z0
      refine done_ (by kernel_rfl) ?_
      have HB3 : Aside0 (BegAt p tb work me bt ok w bn n2 (freeT me n2 f) res (w2.setCell ⟨bn, 0, none⟩ (.int .i64 n2))) := ⟨⟨_, _, HT2.out.set HBN.out.2 HWN.out HNT.out _, HBN.out.set 0 _, HNT.out, HWN.out, HR2.out⟩⟩
      clear HT2 HBN HR2 HT hd hHeld
      generalize w2.setCell ⟨bn, 0, none⟩ (.int .i64 n2) = w3 at HB3 ⊢
      go_wp2_with fail
      go_loopg [] f (fun g wr => Aside0 (BegAt p tb work me bt ok w bn n2 (freeT me n2 g) res wr))
      case atStart => exact HB3
      case round =>
        clear HB3
        obtain ⟨okc4, s4, hT, hbn, hnt, hwn, hr⟩ := hrel.out.out
        cases gk with
        | zero => cases hr
        | succ g =>
          obtain ⟨o, t5, hd, hcase⟩ := prBind_some hr
          have c0 := hT.c0
          have HT := Aside0.mk hT
          have HBN := Aside0.mk hbn
          have HD := Aside0.mk hd
          have HCS := Aside0.mk hcase
          clear hT hbn hnt hwn hr hd hcase hrel
          go_upto_if 58 with (go_at_call 61; refine (HT.out.one_ HBN.out HD.out).mono ?_; rintro e w2 ⟨⟨ok1, hm, hT, he⟩⟩; rcases HCS.out with hw | hw; (obtain ⟨rfl, rfl⟩ := hw; obtain rfl : e = .panicked waitP := he; exact ⟨rfl, ⟨⟨ok1, hT.moves, hT.run, rfl⟩⟩⟩); obtain ⟨a2, rfl, hr2⟩ := hw; obtain rfl : e = .returned (.int .i64 a2) := he; have HT2 := Aside0.mk hT; have HR2 := Aside0.mk hr2; have HBN := Aside0.mk (HBN.out.moves hm); clear hm hT hr2)
          by_cases ha : a2 = 0
          · have hb1 : (a2 == 0) = true := by simp [ha]
            have hb2 : (a2 != 0) = false := by simp [ha]
            have HR4 : Aside0 (prRet () t5 = some res) := ⟨by have h := HR2.out; rw [if_pos ha] at h; exact h⟩
            clear ha
            go_wp2_with fail
            go_end0
            obtain rfl : res = (.ret (), t5) := by have h := HR4.out; injection h with h; exact h.symm
            exact ⟨⟨_, HT2.out.moves, HT2.out.run, _, rfl, rfl⟩⟩
          · have hb1 : (a2 == 0) = false := by simpa using ha
            have hb2 : (a2 != 0) = true := by simpa using ha
            have HR4 : Aside0 (freeT me n2 g t5 = some res) := ⟨by have h := HR2.out; rw [if_neg ha] at h; exact h⟩
            clear ha
            go_wp2_with fail
            go_roundg g
            case rel => exact ⟨⟨_, _, HT2.out, HBN.out, HNT.out, HWN.out, HR4.out⟩⟩
            case measure => omega
set_option maxHeartbeats 4000000 in
set_option maxRecDepth 100000 in
theorem end_calls (p tb : Nat) (work : Value) (me : Int) (ok : Nat → Prop) (s : TS Ws) (w : World) (h : IsRun (shW p) tb work ok s w) (res : Out Unit × TS Ws) (hr : endT me s = some res) :
    Calls Tryz.prog 42 #[taskV tb p me] w (TPost (shW p) tb work VUnit ok w res) := by
  have HT := Aside0.mk (TaskAt.enter (me := me) h)
  obtain ⟨o, t, hd, hcase⟩ := prBind_some hr
  have HD := Aside0.mk hd
  have HCS := Aside0.mk hcase
  have HTV : taskV tb p me = .agg #[.pointer (some ⟨tb, 0, none⟩), .pointer (some ⟨p, 0, none⟩), .int .i64 me] := rfl
  rw [HTV]
  have HTO : taskO tb p me = .cells #[.pointer (some ⟨tb, 0, none⟩), .pointer (some ⟨p, 0, none⟩), .int .i64 me] 84 := rfl
  rw [HTO] at HT
  clear h hr HTV HTO hd hcase
  go_enter Tryz.func42, Tryz.ntmps42
  go_upto_region 1 with fail
  generalize w.alloc (.cells #[.pointer (some ⟨tb, 0, none⟩), .pointer (some ⟨p, 0, none⟩), .int .i64 me] 84) = w1 at HT ⊢
  generalize hbb : w.heap.size = bt at HT ⊢
  have c0 := HT.out.c0
  go_wp2_with (go_at_call 61; refine (HT.out.hush_ HD.out).mono ?_; rintro e w2 ⟨⟨ok1, hm, hT, he⟩⟩; rcases HCS.out with hw | hw; (obtain ⟨rfl, rfl⟩ := hw; obtain rfl : e = .panicked waitP := he; exact ⟨rfl, ⟨⟨ok1, hT.moves, hT.run, rfl⟩⟩⟩); obtain ⟨a0, rfl, hr2⟩ := hw; obtain rfl : e = .returned (.int .i64 a0) := he; have HT2 := Aside0.mk hT; have HR2 := Aside0.mk hr2; clear hm hT hr2)
  go_end0
  obtain rfl : res = (.ret (), t) := by have h := HR2.out; injection h with h; exact h.symm
  exact ⟨⟨_, HT2.out.moves, HT2.out.run, _, rfl, rfl⟩⟩
def stp0 : Stp := ⟨0, nd0, 0⟩
def VLeaf (q : Stp × Stp) (ok : Nat → Prop) (v : Value) (w : World) : Prop := ∃ cs ds, v = .tuple #[.agg cs.toArray, .agg ds.toArray] ∧ kStp.FK w (fun k => ¬ ok k) q.1 cs ∧ kStp.FK w (fun k => ¬ ok k) q.2 ds
def leafT (key : Int) (f : Nat) : Pr Ws (Stp × Stp) := fun s => prBind (pathT key f s.sh.entry []) (fun l => if l.length < 2 then fun _ => none else prRet (l.getD (l.length - 2) stp0, l.getD (l.length - 1) stp0)) s
theorem TaskAt.cells {p tb : Nat} {work : Value} {me : Int} {bt : Nat} {ok okc : Nat → Prop} {w wc : World} {s : TS Ws} (h : TaskAt p tb work me bt ok w okc s wc) {g : Nat} (hn : ¬ okc g) (hw : w.heap.size ≤ g) (ht : g ≠ bt) (o : Nat) (seg : List Value) : TaskAt p tb work me bt ok w okc s (wc.setCells g o seg) :=
  ⟨h.run.step (shW_shared p) (by rw [(setCells_same g seg o wc).2.2.2]; exact Nat.le_refl _) (fun k hk _ => setCells_far seg o k (fun e => hn (e ▸ hk))), moves_cells h.moves (.inr hw) o seg, ⟨(setCells_far seg o bt (fun e => ht e.symm)).trans h.box.1, h.box.2⟩⟩
theorem setCells_all {w : World} {g : Nat} {cur : Array Value} {e : TypeId} {seg : List Value} (h : w.heap[g]? = some (.cells cur e (0, 0))) (hl : cur.size = seg.length) : (w.setCells g 0 seg).heap[g]? = some (.cells seg.toArray e (0, 0)) := by
  obtain ⟨cur', h3, h4, h5⟩ := setCells_row seg 0 w cur h (by omega)
  rw [h3]
  have : cur'.toList = seg := by
    rw [h5]
    simp only [List.take_zero, List.nil_append, Nat.zero_add]
    rw [List.drop_of_length_le (by rw [Array.length_toList]; omega), List.append_nil]
  rw [← this]
theorem Mine.cells {ok : Nat → Prop} {w : World} {g : Nat} {o : Obj} (h : Mine ok w g o) {g1 : Nat} (hn : g1 ≠ g) (o1 : Nat) (seg : List Value) : Mine ok (w.setCells g1 o1 seg) g o := ⟨(setCells_far seg o1 g (fun e => hn e.symm)).trans h.1, h.2⟩
theorem results_cell_rows {P : Program} {fn : Func} {p q : Tmp} {ty tz : TypeId} (h : fn.results = #[.cell p ty, .cell q tz]) (tmps : Array Value) (w : World) (g1 : Nat) (t1 : TypeId) (cs1 : Array Value) (fr1 : Nat × Nat) (d1 : TypeDesc) (g2 : Nat) (t2 : TypeId) (cs2 : Array Value) (fr2 : Nat × Nat) (d2 : TypeDesc)
    (hp : tmps.getD p undef = .pointer (some ⟨g1, 0, none⟩)) (hg1 : w.heap[g1]? = some (.cells cs1 t1 fr1)) (hu1 : P.underlying ty = some d1) (hd1 : (match d1 with | .struct _ | .array _ _ => true | _ => false) = true) (hi1 : (P.info? ty).map (·.size) = some cs1.size)
    (hq : tmps.getD q undef = .pointer (some ⟨g2, 0, none⟩)) (hg2 : w.heap[g2]? = some (.cells cs2 t2 fr2)) (hu2 : P.underlying tz = some d2) (hd2 : (match d2 with | .struct _ | .array _ _ => true | _ => false) = true) (hi2 : (P.info? tz).map (·.size) = some cs2.size) :
    (results fn tmps).run P w = .ok (.tuple #[.agg cs1, .agg cs2]) w := by
  have hp' : tmps[p]?.getD undef = .pointer (some ⟨g1, 0, none⟩) := by simpa using hp
  have hq' : tmps[q]?.getD undef = .pointer (some ⟨g2, 0, none⟩) := by simpa using hq
  simp [results, h, hp', hq', asAddr, run_loadVar_row w g1 t1 ty cs1 fr1 d1 hg1 hu1 hd1 hi1, run_loadVar_row w g2 t2 tz cs2 fr2 d2 hg2 hu2 hd2 hi2]
def stpO : Obj := .cells #[.int .i64 0, .bool false, .bool false, .slice none 0 0, .slice none 0 0, .slice none 0 0, .int .i64 0] 134 (0, 0)
def TLeaf4 : Bool × List (List Nat × List Nat) := (true, [([], []), ([], []), ([1], [1]), ([2], [2]), ([0, 3], [0, 3]), ([4], [4]), ([], []), ([], []), ([7], [7]), ([8], [8]), ([6, 9], [6, 9]), ([10], [10]), ([5, 0, 1, 2, 3, 4, 5], [5]), ([11, 12, 0, 1, 2, 3, 4, 5, 6, 7, 8, 9, 10, 11, 12], [11])])
def BLeaf4 : List Nat := [0, 0, 2, 6, 15, 31, 0, 0, 128, 384, 960, 1984, 63, 8191]
theorem tabLeaf4 : rtab .any (opsOf Tryz.f75 4) = TLeaf4 := by kernel_rfl
theorem bitsLeaf4 : waitsOk TLeaf4.2 BLeaf4 = true := by kernel_rfl
set_option maxHeartbeats 4000000 in
set_option maxRecDepth 100000 in
theorem leaf_calls (p tb : Nat) (work : Value) (me key : Int) (ok : Nat → Prop) (s : TS Ws) (w : World) (h : IsRun (shW p) tb work ok s w) (f : Nat) (hf : f < 900000) (res : Out (Stp × Stp) × TS Ws) (hr : leafT key f s = some res) (hlen : ∀ l t, pathT key f s.sh.entry [] s = some (.ret l, t) → l.length < 1000000) :
    Calls Tryz.prog 75 #[taskV tb p me, .int .i64 key] w (TPost (shW p) tb work VLeaf ok w res) := by
  obtain ⟨o, t, hd, hcase⟩ := prBind_some hr
  have HT := Aside0.mk (((TaskAt.enter (me := me) h).alloc stpO).alloc stpO)
  have HB4 := Aside0.mk ((Mine.new (TaskAt.enter (p := p) (tb := tb) (me := me) h).lt stpO).alloc stpO)
  have HB5 := Aside0.mk (Mine.new ((TaskAt.enter (me := me) h).alloc stpO).lt stpO)
  have HD := Aside0.mk hd
  have HCS := Aside0.mk hcase
  have HLN := Aside0.mk hlen
  have HTV : taskV tb p me = .agg #[.pointer (some ⟨tb, 0, none⟩), .pointer (some ⟨p, 0, none⟩), .int .i64 me] := rfl
  rw [HTV]
  have HSZ : Aside0 (w.heap.size < (w.alloc (taskO tb p me)).heap.size ∧ (w.alloc (taskO tb p me)).heap.size < ((w.alloc (taskO tb p me)).alloc stpO).heap.size) := ⟨by simp⟩
  unfold taskO stpO at HT HB4 HB5 HSZ
  clear h hr hd hcase hlen HTV
  go_enter Tryz.func75, Tryz.ntmps75
  go_upto_region 1 with fail
  simp only [World.size_alloc] at HB4 HB5 HSZ
  generalize ((w.alloc (.cells #[.pointer (some ⟨tb, 0, none⟩), .pointer (some ⟨p, 0, none⟩), .int .i64 me] 84)).alloc (.cells #[.int .i64 0, .bool false, .bool false, .slice none 0 0, .slice none 0 0, .slice none 0 0, .int .i64 0] 134)).alloc (.cells #[.int .i64 0, .bool false, .bool false, .slice none 0 0, .slice none 0 0, .slice none 0 0, .int .i64 0] 134) = w3 at HT HB4 HB5 ⊢
  generalize hbb : w.heap.size = bt at HT HB4 HB5 ⊢
  clear HSZ
  have HWB : Aside0 (w.heap.size = bt) := ⟨hbb⟩
  clear hbb
  generalize hb4 : bt + 1 = b4 at HB4 HB5 ⊢
  generalize hb5 : b4 + 1 = b5 at HB5 ⊢
  have HW4 : Aside0 (w.heap.size ≤ b4) := ⟨by have := HWB.out; omega⟩
  have HW5 : Aside0 (w.heap.size ≤ b5) := ⟨by have := HWB.out; omega⟩
  have H45 : Aside0 (b4 ≠ b5) := ⟨by omega⟩
  have HT4 : Aside0 (b4 ≠ bt) := ⟨by omega⟩
  have HT5 : Aside0 (b5 ≠ bt) := ⟨by omega⟩
  clear hb4 hb5
  have c0 := HT.out.c0
  have c1 := HT.out.c1
  have c2 := HT.out.c2
  go_upto_region 2 with (go_at_call 98; refine (path_callsN p tb work me key ok s _ HT.out.run f hf (o, t) HD.out).mono ?_; rintro e w4 ⟨ok1, hm, hi, hres⟩; rcases HCS.out with hw | hw; (obtain ⟨rfl, rfl⟩ := hw; obtain rfl : e = .panicked waitP := hres; exact ⟨rfl, ⟨⟨ok1, HT.out.moves.trans hm, hi, rfl⟩⟩⟩); obtain ⟨l, rfl, hr2⟩ := hw; obtain ⟨v, rfl, hv⟩ := hres; obtain ⟨A, c, rfl⟩ := Kd.R_slice hv; have HT2 := Aside0.mk (HT.out.next hm hi); have HN4 := Aside0.mk HB4.out.lt; have HN5 := Aside0.mk HB5.out.lt; have HB4 := Aside0.mk (HB4.out.moves hm); have HB5 := Aside0.mk (HB5.out.moves hm); have HV := Aside0.mk hv; have HR2 := Aside0.mk hr2; clear hm hi hv hr2 c0 c1 c2)
  have hr3 := HR2.out
  by_cases h2 : l.length < 2
  · rw [if_pos h2] at hr3; cases hr3
  rw [if_neg h2] at hr3
  obtain ⟨m, hm2⟩ : ∃ m, l.length = m + 2 := ⟨l.length - 2, by omega⟩
  have hlt := HLN.out l t HD.out
  have HR3 := Aside0.mk hr3
  have HM2 := Aside0.mk hm2
  clear HR2 hr3 h2
  have hV := HV.out
  unfold VStepsN at hV
  obtain ⟨g, rfl⟩ : ∃ g, A = some ⟨g, 0, none⟩ := by
    obtain ⟨g, cap, e1, _⟩ := Kd.R_form hV (by omega)
    injection e1 with e1 _ _
    exact ⟨g, e1⟩
  have HG : Aside0 (w3.heap.size ≤ g) := ⟨Kd.R_base hV g (by simp [Value.ownBlock])⟩
  have HG4 : Aside0 (g ≠ b4) := ⟨by have := HG.out; have := HN4.out; omega⟩
  have HG5 : Aside0 (g ≠ b5) := ⟨by have := HG.out; have := HN5.out; omega⟩
  obtain ⟨cs1, _, hM1, hc1, _⟩ := Kd.R_elem hV stp0 ((m : Nat) : Int) (by omega) (by omega)
  obtain ⟨cs2, _, hM2', hc2, _⟩ := Kd.R_elem hV stp0 ((m + 1 : Nat) : Int) (by omega) (by omega)
  rw [Int.toNat_natCast] at hM1 hc1 hM2' hc2
  have hq1 : (l.getD (l.length - 2) stp0, l.getD (l.length - 1) stp0) = (l.getD m stp0, l.getD (m + 1) stp0) := by rw [hm2]; rfl
  rw [hq1] at HR3
  clear hq1
  generalize hm1 : m + 1 = m1 at hM2' hc2 HR3
  generalize l.getD m stp0 = q1 at hM1 HR3
  generalize l.getD m1 stp0 = q2 at hM2' HR3
  obtain ⟨Ap1, cp1, Ak1, ck1, Ay1, cy1, rfl⟩ := kStp_cells (kStp.K_of_M hM1)
  obtain ⟨Ap2, cp2, Ak2, ck2, Ay2, cy2, rfl⟩ := kStp_cells (kStp.K_of_M hM2')
  rw [show kStp.sz = 7 from rfl] at hc1 hc2
  have HF1 : Aside0 (kStp.FK w4 (fun k => ¬ ok1 k ∧ w3.heap.size ≤ k) q1 _) := ⟨Kd.FK_mono (Kd.FK_of_M (kStp.M_bound hM1)) (fun k hk => ⟨hk.1.1, hk.2.1⟩)⟩
  have HF2 : Aside0 (kStp.FK w4 (fun k => ¬ ok1 k ∧ w3.heap.size ≤ k) q2 _) := ⟨Kd.FK_mono (Kd.FK_of_M (kStp.M_bound hM2')) (fun k hk => ⟨hk.1.1, hk.2.1⟩)⟩
  have HC := Aside0.mk (And.intro (hc1 0 _ rfl) (And.intro (hc1 1 _ rfl) (And.intro (hc1 2 _ rfl) (And.intro (hc1 3 _ rfl) (And.intro (hc1 4 _ rfl) (And.intro (hc1 5 _ rfl) (And.intro (hc1 6 _ rfl) (And.intro (hc2 0 _ rfl) (And.intro (hc2 1 _ rfl) (And.intro (hc2 2 _ rfl) (And.intro (hc2 3 _ rfl) (And.intro (hc2 4 _ rfl) (And.intro (hc2 5 _ rfl) (hc2 6 _ rfl))))))))))))))
  rw [hm2]
  have d1 : decide (((m + 2 : Nat) : Int) < 2) = false := decide_eq_false (by omega)
  have d2 : decide (m + 2 < 2) = false := decide_eq_false (by omega)
  have hw2 : wrap64 (m : Int) = (m : Int) := by unfold wrap64; omega
  have hw1 : wrap64 ((m : Int) + 2 - 1) = (m1 : Int) := by unfold wrap64; omega
  have b0 : (0 : Int) ≤ (m : Int) := by omega
  have b1 : (m : Int) < (m : Int) + 2 := by omega
  have b2 : (m1 : Int) < (m : Int) + 2 := by omega
  have b3 : (0 : Int) ≤ (m1 : Int) := by omega
  clear hV hM1 hM2' hc1 hc2 hm2 HV HM2 hm1
  go_upto_region 4 with fail
  refine start_ (n := 14) (S := fun w' => w'.cell? ⟨g, m * 7, none⟩ = some (.int .i64 q1.ref) ∧ w'.cell? ⟨g, m * 7 + 1, none⟩ = some (.bool q1.node.inner) ∧ w'.cell? ⟨g, m * 7 + 2, none⟩ = some (.bool q1.node.tagged) ∧ w'.cell? ⟨g, m * 7 + 3, none⟩ = some (.slice Ap1 q1.node.pairs.length cp1) ∧ w'.cell? ⟨g, m * 7 + 4, none⟩ = some (.slice Ak1 q1.node.keys.length ck1) ∧ w'.cell? ⟨g, m * 7 + 5, none⟩ = some (.slice Ay1 q1.node.ways.length cy1) ∧ w'.cell? ⟨g, m * 7 + 6, none⟩ = some (.int .i64 q1.way) ∧ w'.cell? ⟨g, m1 * 7, none⟩ = some (.int .i64 q2.ref) ∧ w'.cell? ⟨g, m1 * 7 + 1, none⟩ = some (.bool q2.node.inner) ∧ w'.cell? ⟨g, m1 * 7 + 2, none⟩ = some (.bool q2.node.tagged) ∧ w'.cell? ⟨g, m1 * 7 + 3, none⟩ = some (.slice Ap2 q2.node.pairs.length cp2) ∧ w'.cell? ⟨g, m1 * 7 + 4, none⟩ = some (.slice Ak2 q2.node.keys.length ck2) ∧ w'.cell? ⟨g, m1 * 7 + 5, none⟩ = some (.slice Ay2 q2.node.ways.length cy2) ∧ w'.cell? ⟨g, m1 * 7 + 6, none⟩ = some (.int .i64 q2.way)) (ds := [13]) #[N_,N_,N_,N_,N_,N_,N_,N_,N_,N_,N_,N_,N_,N_] (by kernel_rfl) rfl rfl HC.out (fun hHeld => ?_); refine with_tabW tabLeaf4 bitsLeaf4 (fun HT_ HW_ => ?_)
  have HT2 := Aside0.mk HT2.out.drew
  have HB4 := Aside0.mk (HB4.out.moves ((Moves.refl _ _).drew))
  have HB5 := Aside0.mk (HB5.out.moves ((Moves.refl _ _).drew))
  have HF1 := Aside0.mk (Kd.FK_below HF1.out (below_drew (Below.refl _ _)))
  have HF2 := Aside0.mk (Kd.FK_below HF2.out (below_drew (Below.refl _ _)))
  clear HC
  generalize World.drew _ = w4 at HT2 HB4 HB5 HF1 HF2 hHeld ⊢
  refine pure_ (i := 0) (N := (some 15)) (v := ?_) (a' := ?_) #[Y_,N_,N_,N_,N_,N_,N_,N_,N_,N_,N_,N_,N_,N_] rfl rfl (any_of HT_.out (by kernel_rfl)) (fun _ _ _ h => h) (Or.inl ⟨by rfl, ?_⟩) ?_ ?_
  rotate_left; · intro w'; go_simp; with_reducible rfl
  rotate_left; · simp only [Act.put, u1_, u2_, u3_, i64_w, i32_w]; rfl
  refine pure_ (i := 1) (N := (some 16)) (v := ?_) (a' := ?_) #[Y_,Y_,N_,N_,N_,N_,N_,N_,N_,N_,N_,N_,N_,N_] rfl rfl (any_of HT_.out (by kernel_rfl)) (fun _ _ _ h => h) (Or.inl ⟨by rfl, ?_⟩) ?_ ?_
  rotate_left; · intro w'; go_simp; with_reducible rfl
  rotate_left; · simp only [Act.put, u1_, u2_, u3_, i64_w, i32_w]; rfl
  refine pure_ (i := 2) (N := (some 17)) (v := ?_) (a' := ?_) #[Y_,Y_,Y_,N_,N_,N_,N_,N_,N_,N_,N_,N_,N_,N_] rfl rfl (any_of HT_.out (by kernel_rfl)) (fun _ _ _ h => h) (Or.inl ⟨by rfl, ?_⟩) ?_ ?_
  rotate_left; · intro w'; go_simp; with_reducible rfl
  rotate_left; · simp only [Act.put, u1_, u2_, u3_, i64_w, i32_w]; rfl
  refine pure_ (i := 3) (N := (some 18)) (v := ?_) (a' := ?_) #[Y_,Y_,Y_,Y_,N_,N_,N_,N_,N_,N_,N_,N_,N_,N_] rfl rfl (any_of HT_.out (by kernel_rfl)) (fun _ _ _ h => h) (Or.inl ⟨by rfl, ?_⟩) ?_ ?_
  rotate_left; · intro w'; go_simp; with_reducible rfl
  rotate_left; · simp only [Act.put, u1_, u2_, u3_, i64_w, i32_w]; rfl
  refine pure_ (i := 4) (N := (some 19)) (v := ?_) (a' := ?_) #[Y_,Y_,Y_,Y_,Y_,N_,N_,N_,N_,N_,N_,N_,N_,N_] rfl rfl (any_of HT_.out (by kernel_rfl)) (fun _ _ _ h => h) (Or.inl ⟨by rfl, ?_⟩) ?_ ?_
  rotate_left; · intro w'; go_simp; with_reducible rfl
  rotate_left; · simp only [Act.put, u1_, u2_, u3_, i64_w, i32_w]; rfl
  refine take_ (i := 5) (N := (some 20)) (v := ?_) (a' := ?_) #[Y_,Y_,Y_,Y_,Y_,Y_,N_,N_,N_,N_,N_,N_,N_,N_] rfl rfl (take_ofW HT_.out HW_.out (by kernel_rfl)) (fun _ _ _ h => h) (Or.inl ⟨by rfl, ?_⟩) hHeld ?_ ?_
  rotate_left; · rintro w' ⟨s0, s1, s2, s3, s4, s5, s6, s7, s8, s9, s10, s11, s12, s13⟩; go_simp; with_reducible rfl
  rotate_left; · simp only [Act.put, u1_, u2_, u3_, i64_w, i32_w]; rfl
  refine pure_ (i := 6) (N := (some 21)) (v := ?_) (a' := ?_) #[Y_,Y_,Y_,Y_,Y_,Y_,Y_,N_,N_,N_,N_,N_,N_,N_] rfl rfl (any_of HT_.out (by kernel_rfl)) (fun _ _ _ h => h) (Or.inl ⟨by rfl, ?_⟩) ?_ ?_
  rotate_left; · intro w'; go_simp; with_reducible rfl
  rotate_left; · simp only [Act.put, u1_, u2_, u3_, i64_w, i32_w]; rfl
  refine pure_ (i := 7) (N := (some 22)) (v := ?_) (a' := ?_) #[Y_,Y_,Y_,Y_,Y_,Y_,Y_,Y_,N_,N_,N_,N_,N_,N_] rfl rfl (any_of HT_.out (by kernel_rfl)) (fun _ _ _ h => h) (Or.inl ⟨by rfl, ?_⟩) ?_ ?_
  rotate_left; · intro w'; go_simp; with_reducible rfl
  rotate_left; · simp only [Act.put, u1_, u2_, u3_, i64_w, i32_w]; rfl
  refine pure_ (i := 8) (N := (some 23)) (v := ?_) (a' := ?_) #[Y_,Y_,Y_,Y_,Y_,Y_,Y_,Y_,Y_,N_,N_,N_,N_,N_] rfl rfl (any_of HT_.out (by kernel_rfl)) (fun _ _ _ h => h) (Or.inl ⟨by rfl, ?_⟩) ?_ ?_
  rotate_left; · intro w'; go_simp; with_reducible rfl
  rotate_left; · simp only [Act.put, u1_, u2_, u3_, i64_w, i32_w]; rfl
  refine pure_ (i := 9) (N := (some 24)) (v := ?_) (a' := ?_) #[Y_,Y_,Y_,Y_,Y_,Y_,Y_,Y_,Y_,Y_,N_,N_,N_,N_] rfl rfl (any_of HT_.out (by kernel_rfl)) (fun _ _ _ h => h) (Or.inl ⟨by rfl, ?_⟩) ?_ ?_
  rotate_left; · intro w'; go_simp; with_reducible rfl
  rotate_left; · simp only [Act.put, u1_, u2_, u3_, i64_w, i32_w]; rfl
  refine pure_ (i := 10) (N := (some 25)) (v := ?_) (a' := ?_) #[Y_,Y_,Y_,Y_,Y_,Y_,Y_,Y_,Y_,Y_,Y_,N_,N_,N_] rfl rfl (any_of HT_.out (by kernel_rfl)) (fun _ _ _ h => h) (Or.inl ⟨by rfl, ?_⟩) ?_ ?_
  rotate_left; · intro w'; go_simp; with_reducible rfl
  rotate_left; · simp only [Act.put, u1_, u2_, u3_, i64_w, i32_w]; rfl
  refine take_ (i := 11) (N := (some 26)) (v := ?_) (a' := ?_) #[Y_,Y_,Y_,Y_,Y_,Y_,Y_,Y_,Y_,Y_,Y_,Y_,N_,N_] rfl rfl (take_ofW HT_.out HW_.out (by kernel_rfl)) (fun _ _ _ h => h) (Or.inl ⟨by rfl, ?_⟩) hHeld ?_ ?_
  rotate_left; · rintro w' ⟨s0, s1, s2, s3, s4, s5, s6, s7, s8, s9, s10, s11, s12, s13⟩; go_simp; with_reducible rfl
  rotate_left; · simp only [Act.put, u1_, u2_, u3_, i64_w, i32_w]; rfl
  refine one_ (i := 12) (N := none) #[Y_,Y_,Y_,Y_,Y_,Y_,Y_,Y_,Y_,Y_,Y_,Y_,Y_,N_] rfl rfl (one_of HT_.out (by kernel_rfl)) (by decide) (fun K_ hK => ?_)
  refine skip_ (w1 := w4.setCells b4 0 [.int .i64 q1.ref, .bool q1.node.inner, .bool q1.node.tagged, .slice Ap1 q1.node.pairs.length cp1, .slice Ak1 q1.node.keys.length ck1, .slice Ay1 q1.node.ways.length cy1, .int .i64 q1.way]) (by rfl) rfl ?h12 ?_
  (case h12 => exact exec_store _ [.int .i64 q1.ref, .bool q1.node.inner, .bool q1.node.tagged, .slice Ap1 q1.node.pairs.length cp1, .slice Ak1 q1.node.keys.length ck1, .slice Ay1 q1.node.ways.length cy1, .int .i64 q1.way] rfl (by rfl) (by rfl) HB4.out.1 rfl (by kernel_rfl) (by simp) (by intro u hu; simp only [List.mem_cons, List.not_mem_nil, or_false] at hu; rcases hu with rfl | rfl | rfl | rfl | rfl | rfl | rfl <;> rfl))
  refine hK.out _ _ ?hS (fun hHeld => ?_)
  case hS =>
    obtain ⟨s0, s1, s2, s3, s4, s5, s6, s7, s8, s9, s10, s11, s12, s13⟩ := hHeld
    refine ⟨?_, ?_, ?_, ?_, ?_, ?_, ?_, ?_, ?_, ?_, ?_, ?_, ?_, ?_⟩ <;> (rw [World.cell?_of_block (setCells_far _ _ g HG4.out)]; assumption)
  clear hK K_
  have HT2 := Aside0.mk (HT2.out.cells HB4.out.2 HW4.out HT4.out 0 [.int .i64 q1.ref, .bool q1.node.inner, .bool q1.node.tagged, .slice Ap1 q1.node.pairs.length cp1, .slice Ak1 q1.node.keys.length ck1, .slice Ay1 q1.node.ways.length cy1, .int .i64 q1.way])
  have HF1 := Aside0.mk (Kd.FK_step (W1 := w4.setCells b4 0 [.int .i64 q1.ref, .bool q1.node.inner, .bool q1.node.tagged, .slice Ap1 q1.node.pairs.length cp1, .slice Ak1 q1.node.keys.length ck1, .slice Ay1 q1.node.ways.length cy1, .int .i64 q1.way]) HF1.out (fun k hk _ => setCells_far _ _ k (fun e => by have := HN4.out; omega)))
  have HF2 := Aside0.mk (Kd.FK_step (W1 := w4.setCells b4 0 [.int .i64 q1.ref, .bool q1.node.inner, .bool q1.node.tagged, .slice Ap1 q1.node.pairs.length cp1, .slice Ak1 q1.node.keys.length ck1, .slice Ay1 q1.node.ways.length cy1, .int .i64 q1.way]) HF2.out (fun k hk _ => setCells_far _ _ k (fun e => by have := HN4.out; omega)))
  have HB5 := Aside0.mk (Mine.cells HB5.out H45.out 0 [.int .i64 q1.ref, .bool q1.node.inner, .bool q1.node.tagged, .slice Ap1 q1.node.pairs.length cp1, .slice Ak1 q1.node.keys.length ck1, .slice Ay1 q1.node.ways.length cy1, .int .i64 q1.way])
  have HB4 : Aside0 (Mine ok1 (w4.setCells b4 0 [.int .i64 q1.ref, .bool q1.node.inner, .bool q1.node.tagged, .slice Ap1 q1.node.pairs.length cp1, .slice Ak1 q1.node.keys.length ck1, .slice Ay1 q1.node.ways.length cy1, .int .i64 q1.way]) b4 (.cells #[.int .i64 q1.ref, .bool q1.node.inner, .bool q1.node.tagged, .slice Ap1 q1.node.pairs.length cp1, .slice Ak1 q1.node.keys.length ck1, .slice Ay1 q1.node.ways.length cy1, .int .i64 q1.way] 134 (0, 0))) := ⟨⟨setCells_all HB4.out.1 rfl, HB4.out.2⟩⟩
  generalize w4.setCells b4 0 [.int .i64 q1.ref, .bool q1.node.inner, .bool q1.node.tagged, .slice Ap1 q1.node.pairs.length cp1, .slice Ak1 q1.node.keys.length ck1, .slice Ay1 q1.node.ways.length cy1, .int .i64 q1.way] = w5 at HT2 HF1 HF2 HB4 HB5 hHeld ⊢
  refine last_ (i := 13) (N := none) #[Y_,Y_,Y_,Y_,Y_,Y_,Y_,Y_,Y_,Y_,Y_,Y_,Y_,Y_] rfl rfl (one_of HT_.out (by kernel_rfl)) (by decide) (fun K_ hK => ?_)
  refine skip_ (w1 := w5.setCells b5 0 [.int .i64 q2.ref, .bool q2.node.inner, .bool q2.node.tagged, .slice Ap2 q2.node.pairs.length cp2, .slice Ak2 q2.node.keys.length ck2, .slice Ay2 q2.node.ways.length cy2, .int .i64 q2.way]) (by rfl) rfl ?h13 ?_
  (case h13 => exact exec_store _ [.int .i64 q2.ref, .bool q2.node.inner, .bool q2.node.tagged, .slice Ap2 q2.node.pairs.length cp2, .slice Ak2 q2.node.keys.length ck2, .slice Ay2 q2.node.ways.length cy2, .int .i64 q2.way] rfl (by rfl) (by rfl) HB5.out.1 rfl (by kernel_rfl) (by simp) (by intro u hu; simp only [List.mem_cons, List.not_mem_nil, or_false] at hu; rcases hu with rfl | rfl | rfl | rfl | rfl | rfl | rfl <;> rfl))
  refine hK.out _ _ ?_
  clear hK K_ hHeld
  have HT2 := Aside0.mk (HT2.out.cells HB5.out.2 HW5.out HT5.out 0 [.int .i64 q2.ref, .bool q2.node.inner, .bool q2.node.tagged, .slice Ap2 q2.node.pairs.length cp2, .slice Ak2 q2.node.keys.length ck2, .slice Ay2 q2.node.ways.length cy2, .int .i64 q2.way])
  have HF1 := Aside0.mk (Kd.FK_step (W1 := w5.setCells b5 0 [.int .i64 q2.ref, .bool q2.node.inner, .bool q2.node.tagged, .slice Ap2 q2.node.pairs.length cp2, .slice Ak2 q2.node.keys.length ck2, .slice Ay2 q2.node.ways.length cy2, .int .i64 q2.way]) HF1.out (fun k hk _ => setCells_far _ _ k (fun e => by have := HN5.out; omega)))
  have HF2 := Aside0.mk (Kd.FK_step (W1 := w5.setCells b5 0 [.int .i64 q2.ref, .bool q2.node.inner, .bool q2.node.tagged, .slice Ap2 q2.node.pairs.length cp2, .slice Ak2 q2.node.keys.length ck2, .slice Ay2 q2.node.ways.length cy2, .int .i64 q2.way]) HF2.out (fun k hk _ => setCells_far _ _ k (fun e => by have := HN5.out; omega)))
  have HB4 := Aside0.mk (Mine.cells HB4.out H45.out.symm 0 [.int .i64 q2.ref, .bool q2.node.inner, .bool q2.node.tagged, .slice Ap2 q2.node.pairs.length cp2, .slice Ak2 q2.node.keys.length ck2, .slice Ay2 q2.node.ways.length cy2, .int .i64 q2.way])
  have HB5 : Aside0 (Mine ok1 (w5.setCells b5 0 [.int .i64 q2.ref, .bool q2.node.inner, .bool q2.node.tagged, .slice Ap2 q2.node.pairs.length cp2, .slice Ak2 q2.node.keys.length ck2, .slice Ay2 q2.node.ways.length cy2, .int .i64 q2.way]) b5 (.cells #[.int .i64 q2.ref, .bool q2.node.inner, .bool q2.node.tagged, .slice Ap2 q2.node.pairs.length cp2, .slice Ak2 q2.node.keys.length ck2, .slice Ay2 q2.node.ways.length cy2, .int .i64 q2.way] 134 (0, 0))) := ⟨⟨setCells_all HB5.out.1 rfl, HB5.out.2⟩⟩
  generalize w5.setCells b5 0 [.int .i64 q2.ref, .bool q2.node.inner, .bool q2.node.tagged, .slice Ap2 q2.node.pairs.length cp2, .slice Ak2 q2.node.keys.length ck2, .slice Ay2 q2.node.ways.length cy2, .int .i64 q2.way] = w6 at HT2 HF1 HF2 HB4 HB5 ⊢
  refine done_ (done_of HT_.out (by kernel_rfl)) ?_
  go_wp2_with fail
  (try simp only [Exit.inBlock, Exit.then])
  refine bodyPost_ret (results_cell_rows rfl _ _ b4 134 _ (0, 0) _ b5 134 _ (0, 0) _ rfl HB4.out.1 Tryz.underlying134 rfl (by kernel_rfl) rfl HB5.out.1 Tryz.underlying134 rfl (by kernel_rfl)) rfl ?_
  have hh := HR3.out
  injection hh with hh
  subst hh
  exact ⟨⟨ok1, HT2.out.moves, HT2.out.run, _, rfl, _, _, rfl, Kd.FK_mono HF1.out (fun _ hk => hk.1), Kd.FK_mono HF2.out (fun _ hk => hk.1)⟩⟩
theorem at_pair {w : World} {A : Option Addr} {n : Nat} {xs : List (Int × Int)} (h : kPair.C w A n xs) (i : Int) (h0 : 0 ≤ i) (h1 : i < n) : ∃ ad , A = some ad ∧ w.cell? (ad.add (i.toNat * 2)) = some (.int .i64 (xs.getD i.toNat (0, 0)).1) ∧ w.cell? ⟨(ad.add (i.toNat * 2)).block, (ad.add (i.toNat * 2)).off + 1, none⟩ = some (.int .i64 (xs.getD i.toNat (0, 0)).2) := by
  obtain ⟨ad, c, e, _, hK, hc0⟩ := Kd.C_get h (0, 0) i h0 h1
  have hc : ∀ j u, c[j]? = some u → w.cell? (ad.add (i.toNat * 2 + j)) = some u := hc0
  obtain ⟨_, _, rfl, rfl, rfl⟩ := hK
  exact ⟨ad, e, hc 0 _ rfl, by rw [← add_field _ _ 1 (by omega)]; exact hc 1 _ rfl⟩
def cmp3 (a b : Int) : Int := if a < b then -1 else if b < a then 1 else 0
set_option maxHeartbeats 2000000 in
set_option maxRecDepth 100000 in
theorem find1 (a v b : Int) (w : World) : Calls Tryz.prog 119 #[.agg #[.int .i64 a, .int .i64 v], .int .i64 b] w fun e w1 => e = .returned (.int .i64 (cmp3 a b)) ∧ Below w.heap.size w w1 := by
  have HB := Aside0.mk (below_alloc (Below.refl w.heap.size w) (.cells #[.int .i64 a, .int .i64 v] 31))
  have hbx := blk_new w (.cells #[.int .i64 a, .int .i64 v] 31)
  have hc3 : cmp3 a b = cmp3 a b := rfl
  by_cases h1 : a < b
  · have d1 : decide (a < b) = true := decide_eq_true h1
    have HC : Aside0 (cmp3 a b = -1) := ⟨if_pos h1⟩
    clear h1 hc3
    go_enter Tryz.func119, Tryz.ntmps119
    go_wp2_with fail
    go_ret
    exact ⟨by rw [HC.out]; rfl, HB.out⟩
  · have d1 : decide (a < b) = false := decide_eq_false h1
    by_cases h2 : b < a
    · have d2 : decide (a > b) = true := decide_eq_true h2
      have d3 : decide (b < a) = true := decide_eq_true h2
      have HC : Aside0 (cmp3 a b = 1) := ⟨(if_neg h1).trans (if_pos h2)⟩
      clear h1 h2 hc3
      go_enter Tryz.func119, Tryz.ntmps119
      go_wp2_with fail
      go_ret
      exact ⟨by rw [HC.out]; rfl, HB.out⟩
    · have d2 : decide (a > b) = false := decide_eq_false h2
      have d3 : decide (b < a) = false := decide_eq_false h2
      have HC : Aside0 (cmp3 a b = 0) := ⟨(if_neg h1).trans (if_neg h2)⟩
      clear h1 h2 hc3
      go_enter Tryz.func119, Tryz.ntmps119
      go_wp2_with fail
      go_ret
      exact ⟨by rw [HC.out]; rfl, HB.out⟩
def ksOf (xs : List (Int × Int)) : List Int := xs.map Prod.fst
theorem ksOf_get (xs : List (Int × Int)) (m : Nat) : (xs.getD m (0, 0)).1 = (ksOf xs).getD m 0 := by
  simp only [ksOf, List.getD_eq_getElem?_getD, List.getElem?_map]
  cases xs[m]? <;> rfl
set_option maxHeartbeats 2000000 in
set_option maxRecDepth 100000 in
theorem bsearchF (A : Option Addr) (n c : Nat) (xs : List (Int × Int)) (k : Int) (w : World) (hr : kPair.C w A n xs) (hl : n < 1000000) :
    Calls Tryz.prog 118 #[.slice A n c, .int .i64 k, .func (.func 119) #[] #[]] w fun e w1 => e = .returned (.tuple #[.int .i64 (bs (ksOf xs) k 0 n : Nat), .bool (bfound (ksOf xs) k)]) ∧ Below w.heap.size w w1 := by
  have HC0 := Aside0.mk hr
  have HN := Aside0.mk hr.1
  have hnl : Aside0 ((ksOf xs).length = n) := ⟨by rw [← hr.1]; simp [ksOf]⟩
  clear hr
  go_enter Tryz.func118, Tryz.ntmps118
  go_wp2_with fail
  go_loopw [9, 10] (fun i j wr => ∃ a b : Nat, a ≤ b ∧ b ≤ n ∧ i = .int .i64 a ∧ j = .int .i64 b ∧ Aside0 (bs (ksOf xs) k a b = bs (ksOf xs) k 0 n) ∧ Aside0 (Below w.heap.size w wr)) (fun i j _ => ((intOf j).toNat - (intOf i).toNat))
  case atStart => exact ⟨0, n, Nat.zero_le _, Nat.le_refl _, rfl, rfl, ⟨rfl⟩, ⟨Below.refl _ _⟩⟩
  case round =>
    obtain ⟨a, b, hab, hbn, rfl, rfl, HB, HW⟩ := hrel
    have HR := Aside0.mk (Kd.C_below HC0.out HW.out)
    by_cases hlt : a < b
    · have d1 : decide ((a : Int) < (b : Int)) = true := decide_eq_true (by omega)
      have d2 : decide (a < b) = true := decide_eq_true hlt
      go_upto_region 5 with fail
      obtain ⟨m, hm⟩ : ∃ m : Nat, m = (a + b) / 2 := ⟨_, rfl⟩
      have em : ((a : Int) + (b : Int)) / 2 = (m : Int) := by omega
      rw [em]
      have hma : a ≤ m := by omega
      have hmb : m < b := by omega
      have b0 : (0 : Int) ≤ (m : Int) := by omega
      have b1 : (m : Int) < (n : Int) := by omega
      obtain ⟨ad, rfl, hc1, hc2⟩ := at_pair HR.out (m : Int) b0 b1
      rw [Int.toNat_natCast] at hc1 hc2
      have hx := ksOf_get xs m
      have HM := Aside0.mk hm
      have HLT := Aside0.mk hlt
      clear em hm hlt d1 d2
      rw [hx] at hc1
      generalize (xs.getD m (0, 0)).2 = vv at hc2
      obtain ⟨x, hx⟩ : ∃ x, x = (ksOf xs).getD m 0 := ⟨_, rfl⟩
      rw [← hx] at hc1
      have HXX := Aside0.mk hx
      clear hx
      by_cases hd : x < k
      · have h3 : cmp3 x k = -1 := if_pos hd
        have HD := Aside0.mk hd
        have H3 := Aside0.mk h3
        clear hd h3
        go_wp2_with (go_at_call 119; refine (find1 _ _ _ _).mono ?_; rintro e w2 ⟨rfl, hb2⟩; rw [H3.out]; have HW2 := Aside0.mk (below_then HW.out HW.out.size hb2); clear hb2)
        go_round
        case rel =>
          refine ⟨m + 1, b, by omega, hbn, by go_num, rfl, ⟨?_⟩, HW2⟩
          rw [← HB.out]
          conv => rhs; rw [bs_eq]
          rw [if_pos HLT.out, ← HM.out, ← HXX.out, if_pos HD.out]
        case measure => simp [intOf]; omega
      · have h3 : ¬ cmp3 x k < 0 := by unfold cmp3; split <;> (try split) <;> omega
        have d3 : decide (cmp3 x k < 0) = false := decide_eq_false h3
        have HD := Aside0.mk hd
        clear hd h3
        generalize hcm : cmp3 x k = cm at d3
        have HCM := Aside0.mk hcm
        clear hcm
        go_wp2_with (go_at_call 119; refine (find1 _ _ _ _).mono ?_; rintro e w2 ⟨rfl, hb2⟩; rw [HCM.out]; have HW2 := Aside0.mk (below_then HW.out HW.out.size hb2); clear hb2)
        go_round
        case rel =>
          refine ⟨a, m, by omega, by omega, rfl, rfl, ⟨?_⟩, HW2⟩
          rw [← HB.out]
          conv => rhs; rw [bs_eq]
          rw [if_pos HLT.out, ← HM.out, ← HXX.out, if_neg (by have := HD.out; omega)]
        case measure => simp [intOf]; omega
    · have d1 : decide ((a : Int) < (b : Int)) = false := decide_eq_false (by omega)
      have d2 : decide (a < b) = false := decide_eq_false hlt
      have hb := HB.out
      rw [bs_eq, if_neg hlt] at hb
      by_cases han : a < n
      · have d3 : decide ((a : Int) < (n : Int)) = true := decide_eq_true (by omega)
        have d4 : decide (a < n) = true := decide_eq_true han
        have b0 : (0 : Int) ≤ (a : Int) := by omega
        have b1 : (a : Int) < (n : Int) := by omega
        obtain ⟨ad, rfl, hc1, hc2⟩ := at_pair HR.out (a : Int) b0 b1
        rw [Int.toNat_natCast] at hc1 hc2
        have hx := ksOf_get xs a
        rw [hx] at hc1
        have HBB := Aside0.mk hb
        have hfd : bfound (ksOf xs) k = ((ksOf xs).getD a 0 == k) := by
          unfold bfound
          rw [hnl.out, ← hb, decide_eq_true han]
          rfl
        have HF := Aside0.mk hfd
        clear hb hfd HB hlt hx
        generalize (xs.getD a (0, 0)).2 = vv at hc2
        obtain ⟨x, hx⟩ : ∃ x, x = (ksOf xs).getD a 0 := ⟨_, rfl⟩
        rw [← hx] at hc1
        have HXX := Aside0.mk hx
        have HE : Aside0 ((cmp3 x k == 0) = (x == k)) := ⟨by rw [Bool.eq_iff_iff]; unfold cmp3; simp only [beq_iff_eq]; split <;> (try split) <;> omega⟩
        clear hx
        cases hd : x == k with
        | true =>
          have d5 : (cmp3 x k == 0) = true := HE.out.trans hd
          generalize hcm : cmp3 x k = cm at d5
          have HCM := Aside0.mk hcm
          have HDD := Aside0.mk hd
          clear hcm hd
          go_wp2_with (go_at_call 119; refine (find1 _ _ _ _).mono ?_; rintro e w2 ⟨rfl, hb2⟩; rw [HCM.out]; have HW2 := Aside0.mk (below_then HW.out HW.out.size hb2); clear hb2)
          go_ret2
          refine ⟨?_, HW2.out⟩
          rw [HF.out, ← HXX.out, HDD.out, HBB.out]; rfl
        | false =>
          have d5 : (cmp3 x k == 0) = false := HE.out.trans hd
          generalize hcm : cmp3 x k = cm at d5
          have HCM := Aside0.mk hcm
          have HDD := Aside0.mk hd
          clear hcm hd
          go_wp2_with (go_at_call 119; refine (find1 _ _ _ _).mono ?_; rintro e w2 ⟨rfl, hb2⟩; rw [HCM.out]; have HW2 := Aside0.mk (below_then HW.out HW.out.size hb2); clear hb2)
          go_ret2
          refine ⟨?_, HW2.out⟩
          rw [HF.out, ← HXX.out, HDD.out, HBB.out]; rfl
      · have d3 : decide ((a : Int) < (n : Int)) = false := decide_eq_false (by omega)
        have d4 : decide (a < n) = false := decide_eq_false han
        have HBB := Aside0.mk hb
        have hfd : bfound (ksOf xs) k = false := by
          unfold bfound
          rw [hnl.out, ← hb, decide_eq_false han]
          rfl
        have HF := Aside0.mk hfd
        clear hb hfd HB hlt
        go_wp2_with fail
        go_ret2
        refine ⟨?_, HW.out⟩
        rw [HF.out, HBB.out]; rfl
set_option maxHeartbeats 2000000 in
set_option maxRecDepth 100000 in
theorem leaf_find (A : Option Addr) (n c : Nat) (xs : List (Int × Int)) (k : Int) (w : World) (hr : kPair.C w A n xs) (hl : n < 1000000) :
    Calls Tryz.prog 99 #[.slice A n c, .int .i64 k] w fun e w1 => e = .returned (.tuple #[.int .i64 (bs (ksOf xs) k 0 n : Nat), .bool (bfound (ksOf xs) k)]) ∧ Below w.heap.size w w1 := by
  have HR := Aside0.mk hr
  clear hr
  go_enter Tryz.func99, Tryz.ntmps99
  go_wp2_with (go_at_call 118; refine (bsearchF _ _ _ xs _ _ HR.out hl).mono ?_; rintro e w2 ⟨rfl, hb2⟩; have HW2 := Aside0.mk hb2; clear hb2)
  go_ret2
  exact ⟨rfl, HW2.out⟩
def getOf (xs : List (Int × Int)) (k : Int) : Int × Bool := if bfound (ksOf xs) k = true then ((xs.getD (bs (ksOf xs) k 0 xs.length) (0, 0)).2, true) else (0, false)
set_option maxHeartbeats 2000000 in
set_option maxRecDepth 100000 in
theorem leaf_get (A : Option Addr) (n c : Nat) (xs : List (Int × Int)) (k : Int) (w : World) (hr : kPair.C w A n xs) (hl : n < 1000000) :
    Calls Tryz.prog 76 #[.slice A n c, .int .i64 k] w fun e w1 => e = .returned (.tuple #[.int .i64 (getOf xs k).1, .bool (getOf xs k).2]) ∧ Below w.heap.size w w1 := by
  have HR := Aside0.mk hr
  have HL := Aside0.mk (leaf_find A n c xs k w hr hl)
  have hn := hr.1
  cases hf : bfound (ksOf xs) k with
  | false =>
    have HF := Aside0.mk hf
    have e1 : getOf xs k = (0, false) := by unfold getOf; rw [hf]; rfl
    rw [e1]
    clear hr hf hn e1
    go_enter Tryz.func76, Tryz.ntmps76
    go_wp2_with (go_at_call 99; refine HL.out.mono ?_; rintro e w2 ⟨rfl, hb2⟩; rw [HF.out]; have HW2 := Aside0.mk hb2; clear hb2)
    go_ret2
    exact ⟨rfl, HW2.out⟩
  | true =>
    have HF := Aside0.mk hf
    have e1 : getOf xs k = ((xs.getD (bs (ksOf xs) k 0 xs.length) (0, 0)).2, true) := by unfold getOf; rw [hf]; rfl
    rw [e1]
    have hlt : bs (ksOf xs) k 0 n < n := by
      unfold bfound at hf
      rw [Bool.and_eq_true] at hf
      have h1 := of_decide_eq_true hf.1
      rwa [show (ksOf xs).length = n by simp [ksOf, hn]] at h1
    rw [hn]
    clear e1 hf
    generalize bs (ksOf xs) k 0 n = q at HL hlt ⊢
    have HLT := Aside0.mk hlt
    have b0 : (0 : Int) ≤ (q : Int) := by omega
    have b1 : (q : Int) < (n : Int) := by omega
    obtain ⟨ad, rfl, _, _⟩ := at_pair HR.out (q : Int) b0 b1
    generalize hv : (xs.getD q (0, 0)).2 = v
    have HV := Aside0.mk hv
    clear hr hn hlt hv
    go_enter Tryz.func76, Tryz.ntmps76
    go_upto_region 4 with (go_at_call 99; refine HL.out.mono ?_; rintro e w2 ⟨rfl, hb2⟩; rw [HF.out]; have HW2 := Aside0.mk hb2; clear hb2)
    obtain ⟨ad2, e2, hc1, hc2⟩ := at_pair (Kd.C_below HR.out HW2.out) (q : Int) b0 b1
    injection e2 with e2
    subst e2
    rw [Int.toNat_natCast] at hc1 hc2
    rw [HV.out] at hc2
    clear hc1
    go_wp2_with fail
    go_ret2
    exact ⟨rfl, HW2.out⟩
structure Opn where
  kind : Int
  key : Int
  upto : Int
  value : Int
structure Ans where
  err : Int
  found : Bool
  key : Int
  value : Int
  pairs : List (Int × Int)
  short : Bool
def opV (o : Opn) : Value := .agg #[.int .u8 o.kind, .int .i64 o.key, .int .i64 o.upto, .int .i64 o.value]
def VAns (a : Ans) (ok : Nat → Prop) (v : Value) (w : World) : Prop := ∃ A c, v = .agg #[.int .i64 a.err, .bool a.found, .int .i64 a.key, .int .i64 a.value, .slice A a.pairs.length c, .bool a.short] ∧ a.pairs.length ≤ c ∧ kPair.F w (fun k => ¬ ok k) A a.pairs.length a.pairs
theorem pathT_small (key : Int) : ∀ (f : Nat) (r : Int) (acc : List Stp) (s : TS Ws) (l : List Stp) (t : TS Ws), s.sh.Good → (∀ q ∈ acc, q.node.Small) → pathT key f r acc s = some (.ret l, t) → (∀ q ∈ l, q.node.Small) ∧ l.length ≤ acc.length + f
  | 0, r, acc, s, l, t, _, _, h => by cases h
  | f + 1, r, acc, s, l, t, hg, ha, h => by
    have hs := hg.ar.look_small r
    have hg1 : Ws.Good { s.sh with ar := (s.sh.ar.look r).2 } := ⟨hg.ar.look r, hg.ep, hg.tb⟩
    have hall : ∀ wy, ∀ q ∈ acc ++ [(⟨r, (s.sh.ar.look r).1, wy⟩ : Stp)], q.node.Small := fun wy q hq => by
      rcases List.mem_append.1 hq with hq | hq
      · exact ha q hq
      · rw [List.mem_singleton.1 hq]
        exact hs
    unfold pathT prBind lookT at h
    simp only at h
    split at h
    · injection h with h
      injection h with h1 h2
      injection h1 with h1
      subst h1
      exact ⟨hall _, by simp⟩
    · obtain ⟨o, t1, hm, hc⟩ := prBind_some h
      rcases hc with ⟨_, hc⟩ | ⟨a, rfl, hc⟩
      · injection hc with hc _; cases hc
      have hg2 : t1.sh.Good := by
        unfold wayT doT at hm
        split at hm
        · injection hm with hm; injection hm with _ hm; rw [← hm]; exact hg1
        · split at hm
          · injection hm with hm; injection hm with hm _; cases hm
          · split at hm
            · cases hm
            · injection hm with hm; injection hm with _ hm; rw [← hm]; exact ⟨hg1.ar.way _ _, hg1.ep, hg1.tb⟩
      split at hc
      · injection hc with hc
        injection hc with h1 h2
        injection h1 with h1
        subst h1
        exact ⟨hall _, by simp⟩
      · have := pathT_small key f _ _ t1 l t hg2 (hall _) hc
        refine ⟨this.1, ?_⟩
        have h2 := this.2
        simp at h2
        omega
theorem IsRun.good {p tb : Nat} {work : Value} {ok : Nat → Prop} {s : TS Ws} {w : World} (h : IsRun (shW p) tb work ok s w) : s.sh.Good := by
  obtain ⟨_, _, ⟨_, hg⟩, _⟩ := h.direct
  exact hg
theorem kStp_cellsC {w : World} {s : Stp} {c : List Value} (h : kStp.K w s c) : ∃ Ap cp Ak ck Ay cy, c = [.int .i64 s.ref, .bool s.node.inner, .bool s.node.tagged, .slice Ap s.node.pairs.length cp, .slice Ak s.node.keys.length ck, .slice Ay s.node.ways.length cy, .int .i64 s.way] ∧ kPair.C w Ap s.node.pairs.length s.node.pairs := by
  obtain ⟨_, _, rfl, rfl, _, _, rfl, ⟨_, _, rfl, rfl, _, _, rfl, rfl, _, _, rfl, ⟨Ap, cp, rfl, _, hC⟩, _, _, rfl, ⟨Ak, ck, rfl, _⟩, ⟨Ay, cy, rfl, _⟩⟩, rfl⟩ := h
  exact ⟨Ap, cp, Ak, ck, Ay, cy, rfl, hC⟩
def getT (key : Int) (f : Nat) : Pr Ws Ans := prBind (leafT key f) fun q => prRet ⟨0, (getOf q.2.node.pairs key).2, 0, (getOf q.2.node.pairs key).1, [], false⟩
theorem leafT_small {key : Int} {f : Nat} {s t : TS Ws} {q : Stp × Stp} (hg : s.sh.Good) (h : leafT key f s = some (.ret q, t)) : q.1.node.Small ∧ q.2.node.Small := by
  obtain ⟨o, t1, hm, hc⟩ := prBind_some h
  rcases hc with ⟨_, hc⟩ | ⟨l, rfl, hc⟩
  · injection hc with hc _; cases hc
  have hs := (pathT_small key f _ [] s l t1 hg (by simp) hm).1
  by_cases h2 : l.length < 2
  · rw [if_pos h2] at hc; cases hc
  rw [if_neg h2] at hc
  injection hc with hc
  injection hc with hc _
  injection hc with hc
  subst hc
  have hget : ∀ i, i < l.length → (l.getD i stp0).node.Small := fun i hi => by
    rw [List.getD_eq_getElem?_getD, List.getElem?_eq_getElem hi]
    exact hs _ (List.getElem_mem hi)
  exact ⟨hget _ (by omega), hget _ (by omega)⟩
set_option maxHeartbeats 2000000 in
set_option maxRecDepth 100000 in
theorem span_get (key upto value : Int) (w : World) : Calls Tryz.prog 72 #[.agg #[.int .u8 0, .int .i64 key, .int .i64 upto, .int .i64 value]] w fun e w1 => e = .returned (.tuple #[.int .i64 0, .int .i64 0, .bool false]) ∧ Below w.heap.size w w1 := by
  have HB := Aside0.mk (below_alloc (Below.refl w.heap.size w) (.cells #[.int .u8 0, .int .i64 key, .int .i64 upto, .int .i64 value] 38))
  have hbx := blk_new w (.cells #[.int .u8 0, .int .i64 key, .int .i64 upto, .int .i64 value] 38)
  go_enter Tryz.func72, Tryz.ntmps72
  go_wp2_with fail
  go_ret3
  exact ⟨rfl, HB.out⟩
set_option maxHeartbeats 4000000 in
set_option maxRecDepth 100000 in
theorem do_get (p tb : Nat) (work : Value) (me : Int) (ok : Nat → Prop) (s : TS Ws) (w : World) (key upto value : Int) (h : IsRun (shW p) tb work ok s w) (f : Nat) (hf : f < 900000) (res : Out Ans × TS Ws) (hr : getT key f s = some res) :
    Calls Tryz.prog 41 #[taskV tb p me, .agg #[.int .u8 0, .int .i64 key, .int .i64 upto, .int .i64 value]] w (TPost (shW p) tb work VAns ok w res) := by
  obtain ⟨o, t, hd, hcase⟩ := prBind_some hr
  have HG := Aside0.mk h.good
  have HT := Aside0.mk (((TaskAt.enter (me := me) h).alloc (.cells #[.int .u8 0, .int .i64 key, .int .i64 upto, .int .i64 value] 38)).alloc (.cells #[.int .i64 0, .bool false, .int .i64 0, .int .i64 0, .slice none 0 0, .bool false] 26))
  have HB3 := Aside0.mk ((Mine.new (TaskAt.enter (p := p) (tb := tb) (me := me) h).lt (.cells #[.int .u8 0, .int .i64 key, .int .i64 upto, .int .i64 value] 38)).alloc (.cells #[.int .i64 0, .bool false, .int .i64 0, .int .i64 0, .slice none 0 0, .bool false] 26))
  have HB4 := Aside0.mk (Mine.new ((TaskAt.enter (me := me) h).alloc (.cells #[.int .u8 0, .int .i64 key, .int .i64 upto, .int .i64 value] 38)).lt (.cells #[.int .i64 0, .bool false, .int .i64 0, .int .i64 0, .slice none 0 0, .bool false] 26))
  have HD := Aside0.mk hd
  have HCS := Aside0.mk hcase
  have HTV : taskV tb p me = .agg #[.pointer (some ⟨tb, 0, none⟩), .pointer (some ⟨p, 0, none⟩), .int .i64 me] := rfl
  rw [HTV]
  unfold taskO at HT HB3 HB4
  simp only [World.size_alloc] at HB3 HB4
  clear h hr hd hcase HTV
  go_enter Tryz.func41, Tryz.ntmps41
  go_upto_region 1 with fail
  generalize ((w.alloc (.cells #[.pointer (some ⟨tb, 0, none⟩), .pointer (some ⟨p, 0, none⟩), .int .i64 me] 84)).alloc (.cells #[.int .u8 0, .int .i64 key, .int .i64 upto, .int .i64 value] 38)).alloc (.cells #[.int .i64 0, .bool false, .int .i64 0, .int .i64 0, .slice none 0 0, .bool false] 26) = w3 at HT HB3 HB4 ⊢
  generalize hbb : w.heap.size = bt at HT HB3 HB4 ⊢
  have HWB : Aside0 (w.heap.size = bt) := ⟨hbb⟩
  clear hbb
  generalize hb3 : bt + 1 = b3 at HB3 HB4 ⊢
  generalize hb4 : b3 + 1 = b4 at HB4 ⊢
  have HW4 : Aside0 (w.heap.size ≤ b4) := ⟨by have := HWB.out; omega⟩
  have HT4 : Aside0 (b4 ≠ bt) := ⟨by omega⟩
  clear hb3 hb4
  have k0 := (blk_cell HB3.out.1 0).trans (rfl : _ = some (Value.int .u8 0))
  have k1 := (blk_cell HB3.out.1 1).trans (rfl : _ = some (Value.int .i64 key))
  have k2 := (blk_cell HB3.out.1 2).trans (rfl : _ = some (Value.int .i64 upto))
  have k3 := (blk_cell HB3.out.1 3).trans (rfl : _ = some (Value.int .i64 value))
  go_upto_region 7 with (go_at_call 72; refine (span_get key upto value _).mono ?_; rintro e w4 ⟨rfl, hb4⟩; have HT := Aside0.mk (HT.out.below hb4); have HB3 := Aside0.mk (HB3.out.moves (Moves.of_below _ hb4)); have HB4 := Aside0.mk (HB4.out.moves (Moves.of_below _ hb4)); clear hb4 k0 k1 k2 k3)
  have k0 := (blk_cell HB3.out.1 0).trans (rfl : _ = some (Value.int .u8 0))
  have k1 := (blk_cell HB3.out.1 1).trans (rfl : _ = some (Value.int .i64 key))
  have c0 := HT.out.c0
  have c1 := HT.out.c1
  have c2 := HT.out.c2
  go_upto_region 10 with (go_at_call 75; refine (leaf_calls p tb work me key ok s _ HT.out.run f hf (o, t) HD.out (fun l t h => by have := (pathT_small key f _ _ _ _ _ HG.out (by simp) h).2; simp at this; omega)).mono ?_; rintro e w5 ⟨ok1, hm, hi, hres⟩; rcases HCS.out with hw | hw; (obtain ⟨rfl, rfl⟩ := hw; obtain rfl : e = .panicked waitP := hres; exact ⟨rfl, ⟨⟨ok1, HT.out.moves.trans hm, hi, rfl⟩⟩⟩); obtain ⟨q, rfl, hr2⟩ := hw; obtain ⟨v, rfl, cs, ds, rfl, hf1, hf2⟩ := hres; obtain ⟨Ap1, cp1, Ak1, ck1, Ay1, cy1, rfl⟩ := kStp_cells (Kd.FK_now hf1); obtain ⟨Ap2, cp2, Ak2, ck2, Ay2, cy2, rfl, hC2⟩ := kStp_cellsC (Kd.FK_now hf2); have HC2 := Aside0.mk hC2; have HT2 := Aside0.mk (HT.out.next hm hi); have HB3 := Aside0.mk (HB3.out.moves hm); have HB4 := Aside0.mk (HB4.out.moves hm); have HR2 := Aside0.mk hr2; clear hm hi hf1 hf2 hr2 hC2 c0 c1 c2 k0 k1)
  have HSM := Aside0.mk (leafT_small HG.out HD.out).2.pairs
  have B6 := below_then (below_alloc (Below.refl w5.heap.size w5) (.cells #[.int .i64 q.fst.ref, .bool q.fst.node.inner, .bool q.fst.node.tagged, .slice Ap1 q.fst.node.pairs.length cp1, .slice Ak1 q.fst.node.keys.length ck1, .slice Ay1 q.fst.node.ways.length cy1, .int .i64 q.fst.way] 134)) (by simp) (below_alloc (Below.refl (w5.alloc (.cells #[.int .i64 q.fst.ref, .bool q.fst.node.inner, .bool q.fst.node.tagged, .slice Ap1 q.fst.node.pairs.length cp1, .slice Ak1 q.fst.node.keys.length ck1, .slice Ay1 q.fst.node.ways.length cy1, .int .i64 q.fst.way] 134)).heap.size (w5.alloc (.cells #[.int .i64 q.fst.ref, .bool q.fst.node.inner, .bool q.fst.node.tagged, .slice Ap1 q.fst.node.pairs.length cp1, .slice Ak1 q.fst.node.keys.length ck1, .slice Ay1 q.fst.node.ways.length cy1, .int .i64 q.fst.way] 134))) (.cells #[.int .i64 q.snd.ref, .bool q.snd.node.inner, .bool q.snd.node.tagged, .slice Ap2 q.snd.node.pairs.length cp2, .slice Ak2 q.snd.node.keys.length ck2, .slice Ay2 q.snd.node.ways.length cy2, .int .i64 q.snd.way] 134))
  have HB3 := Aside0.mk (HB3.out.moves (Moves.of_below _ B6))
  have HB4 := Aside0.mk (HB4.out.moves (Moves.of_below _ B6))
  have HT2 := Aside0.mk (HT2.out.below B6)
  have HC2 := Aside0.mk (Kd.C_below HC2.out B6)
  have HX := blk_new (w5.alloc (.cells #[.int .i64 q.fst.ref, .bool q.fst.node.inner, .bool q.fst.node.tagged, .slice Ap1 q.fst.node.pairs.length cp1, .slice Ak1 q.fst.node.keys.length ck1, .slice Ay1 q.fst.node.ways.length cy1, .int .i64 q.fst.way] 134)) (.cells #[.int .i64 q.snd.ref, .bool q.snd.node.inner, .bool q.snd.node.tagged, .slice Ap2 q.snd.node.pairs.length cp2, .slice Ak2 q.snd.node.keys.length ck2, .slice Ay2 q.snd.node.ways.length cy2, .int .i64 q.snd.way] 134)
  simp only [World.size_alloc] at HX
  have l3 := (blk_cell HX 3).trans (rfl : _ = some (Value.slice Ap2 q.snd.node.pairs.length cp2))
  have k1 := (blk_cell HB3.out.1 1).trans (rfl : _ = some (Value.int .i64 key))
  clear HX B6
  generalize (w5.alloc (.cells #[.int .i64 q.fst.ref, .bool q.fst.node.inner, .bool q.fst.node.tagged, .slice Ap1 q.fst.node.pairs.length cp1, .slice Ak1 q.fst.node.keys.length ck1, .slice Ay1 q.fst.node.ways.length cy1, .int .i64 q.fst.way] 134)).alloc (.cells #[.int .i64 q.snd.ref, .bool q.snd.node.inner, .bool q.snd.node.tagged, .slice Ap2 q.snd.node.pairs.length cp2, .slice Ak2 q.snd.node.keys.length ck2, .slice Ay2 q.snd.node.ways.length cy2, .int .i64 q.snd.way] 134) = w6 at HB3 HB4 HT2 HC2 l3 k1 ⊢
  generalize hgo : getOf q.2.node.pairs key = go
  have HGO := Aside0.mk hgo
  clear hgo
  go_upto_region 11 with (go_at_call 76; refine (leaf_get Ap2 _ cp2 q.2.node.pairs key _ HC2.out HSM.out).mono ?_; rintro e w7 ⟨rfl, hb7⟩; rw [HGO.out]; have HT3 := Aside0.mk (HT2.out.below hb7); have HB5 := Aside0.mk (HB4.out.moves (Moves.of_below _ hb7)); clear hb7 k1 l3)
  have e0 := (blk_cell HB5.out.1 0).trans (rfl : _ = some (Value.int .i64 0))
  have e1 := (blk_cell HB5.out.1 1).trans (rfl : _ = some (Value.bool false))
  have e2 := (blk_cell HB5.out.1 2).trans (rfl : _ = some (Value.int .i64 0))
  have e3 := (blk_cell HB5.out.1 3).trans (rfl : _ = some (Value.int .i64 0))
  have e4 := (blk_cell HB5.out.1 4).trans (rfl : _ = some (Value.slice none 0 0))
  have e5 := (blk_cell HB5.out.1 5).trans (rfl : _ = some (Value.bool false))
  have z0 := blk_frozen HB5.out.1 0
  have z1 := blk_frozen HB5.out.1 1
  have z2 := blk_frozen HB5.out.1 2
  have z3 := blk_frozen HB5.out.1 3
  have z4 := blk_frozen HB5.out.1 4
  have z5 := blk_frozen HB5.out.1 5
  go_wp2_with fail
  have HT6 := Aside0.mk ((((((HT3.out.set (q := ⟨b4, 0, none⟩) HB5.out.2 HW4.out HT4.out (.int .i64 0)).set (q := ⟨b4, 1, none⟩) HB5.out.2 HW4.out HT4.out (.bool go.2)).set (q := ⟨b4, 2, none⟩) HB5.out.2 HW4.out HT4.out (.int .i64 0)).set (q := ⟨b4, 3, none⟩) HB5.out.2 HW4.out HT4.out (.int .i64 go.1)).set (q := ⟨b4, 4, none⟩) HB5.out.2 HW4.out HT4.out (.slice none 0 0)).set (q := ⟨b4, 5, none⟩) HB5.out.2 HW4.out HT4.out (.bool false))
  have HB6 : Aside0 (Mine ok1 ((((((w7.setCell ⟨b4, 0, none⟩ (.int .i64 0)).setCell ⟨b4, 1, none⟩ (.bool go.2)).setCell ⟨b4, 2, none⟩ (.int .i64 0)).setCell ⟨b4, 3, none⟩ (.int .i64 go.1)).setCell ⟨b4, 4, none⟩ (.slice none 0 0)).setCell ⟨b4, 5, none⟩ (.bool false)) b4 (.cells #[.int .i64 0, .bool go.2, .int .i64 0, .int .i64 go.1, .slice none 0 0, .bool false] 26 (0, 0))) := ⟨(Mine.set (Mine.set (Mine.set (Mine.set (Mine.set (Mine.set HB5.out 0 (.int .i64 0)) 1 (.bool go.2)) 2 (.int .i64 0)) 3 (.int .i64 go.1)) 4 (.slice none 0 0)) 5 (.bool false))⟩
  clear e0 e1 e2 e3 e4 e5 z0 z1 z2 z3 z4 z5 HT3 HB5
  generalize ((((((w7.setCell ⟨b4, 0, none⟩ (.int .i64 0)).setCell ⟨b4, 1, none⟩ (.bool go.2)).setCell ⟨b4, 2, none⟩ (.int .i64 0)).setCell ⟨b4, 3, none⟩ (.int .i64 go.1)).setCell ⟨b4, 4, none⟩ (.slice none 0 0)).setCell ⟨b4, 5, none⟩ (.bool false)) = w8 at HT6 HB6 ⊢
  (try simp only [Exit.inBlock, Exit.then])
  refine bodyPost_ret (results_cell_row rfl _ _ b4 26 _ (0, 0) _ rfl HB6.out.1 Tryz.underlying26 rfl (by kernel_rfl)) rfl ?_
  have hh := HR2.out
  rw [HGO.out] at hh
  injection hh with hh
  subst hh
  exact ⟨⟨ok1, HT6.out.moves, HT6.out.run, _, rfl, none, 0, rfl, Nat.le_refl _, Kd.F_nil _ _ _⟩⟩
end Go.Proofs.YthlmgbdknjilpaaGreat.Tower
namespace Go.Proofs.YthlmgbdknjilpaaGreatW.PrintWords
open Go.RowKit
section
variable {P : Program} {d : Nat} {xs ys : Array Value} {f : Field} {fs : List Field} {a b : Value} {r s : Bool} {w : World}
theorem eqf_last (hn : (f.name == "_") = false) (ha : (part f.type xs f.offset).run P w = .ok a w) (hb : (part f.type ys f.offset).run P w = .ok b w) (he : (Op.equalIn d f.type a b).run P w = .ok r w) : (Op.eqFields d xs ys [f]).run P w = .ok r w := by
  have hn' : f.name ≠ "_" := by simpa using hn
  simp only [Op.eqFields, if_pos hn', Sem.run_bind, ha, hb, he, Result.andThen_ok]
  cases r <;> simp
theorem eqf_cons (hn : (f.name == "_") = false) (ha : (part f.type xs f.offset).run P w = .ok a w) (hb : (part f.type ys f.offset).run P w = .ok b w) (he : (Op.equalIn d f.type a b).run P w = .ok r w) (hr : (Op.eqFields d xs ys fs).run P w = .ok s w) : (Op.eqFields d xs ys (f :: fs)).run P w = .ok (r && s) w := by
  have hn' : f.name ≠ "_" := by simpa using hn
  rw [Op.eqFields]
  simp only [if_pos hn', Sem.run_bind, ha, hb, he, Result.andThen_ok]
  cases r
  · simp
  · simpa using hr
theorem eqA_of {t : TypeId} {fs : Array Field} (hu : P.underlying t = some (.struct fs)) (hp : P.stoodInHeld t = false) (h : (Op.eqFields d xs ys fs.toList).run P w = .ok r w) : (Op.equalIn (d + 1) t (.agg xs) (.agg ys)).run P w = .ok r w := by
  have hf : P.fieldsOf t = fs := by simp [Program.fieldsOf, hu]
  rw [run_equalIn_struct (P := P) w d t xs ys (by rw [hf]; exact hu) hp, hf]
  exact h
end
end Go.Proofs.YthlmgbdknjilpaaGreatW.PrintWords
namespace Go.Proofs.YthlmgbdknjilpaaGreatW.PrintWords
theorem Reps.one {α : Type} {R : α → List Value → Prop} {ps : List α} {cs : List Value} {p : α} {v : Value} (hp : R p [v]) (h : Reps R 1 ps cs) : Reps R 1 (p :: ps) (v :: cs) := by
  refine ⟨by simp [h.1], fun j q hq => ?_⟩
  cases j with
  | zero =>
    simp only [List.getElem?_cons_zero, Option.some.injEq] at hq
    subst hq
    simpa using hp
  | succ j =>
    simp only [List.getElem?_cons_succ] at hq
    have h1 := h.2 j q hq
    simpa [Nat.mul_one] using h1
theorem Reps.front {α : Type} {R : α → List Value → Prop} {size : Nat} {ps : List α} {cs c all : List Value} {p : α} (hp : R p c) (hc : c.length = size) (h : Reps R size ps cs) (ha : c ++ cs = all) : Reps R size (p :: ps) all := by
  subst ha
  refine ⟨by rw [List.length_append, hc, h.1, List.length_cons, Nat.succ_mul, Nat.add_comm], fun j q hq => ?_⟩
  cases j with
  | zero =>
    simp only [List.getElem?_cons_zero, Option.some.injEq] at hq
    subst hq
    rw [Nat.zero_mul, List.drop_zero, List.take_append_of_le_length (by omega), List.take_of_length_le (by omega)]
    exact hp
  | succ j =>
    simp only [List.getElem?_cons_succ] at hq
    have h1 := h.2 j q hq
    rw [Nat.succ_mul, List.drop_append, List.drop_of_length_le (by rw [hc]; exact Nat.le_add_left _ _), List.nil_append, hc, Nat.add_sub_cancel]
    exact h1
theorem Reps.c2 {α : Type} {R : α → List Value → Prop} {ps : List α} {cs : List Value} {p : α} {va vb : Value} (hp : R p [va, vb]) (h : Reps R 2 ps cs) : Reps R 2 (p :: ps) (va :: vb :: cs) := Reps.front hp rfl h rfl
theorem Reps.c3 {α : Type} {R : α → List Value → Prop} {ps : List α} {cs : List Value} {p : α} {va vb vc : Value} (hp : R p [va, vb, vc]) (h : Reps R 3 ps cs) : Reps R 3 (p :: ps) (va :: vb :: vc :: cs) := Reps.front hp rfl h rfl
theorem Reps.c4 {α : Type} {R : α → List Value → Prop} {ps : List α} {cs : List Value} {p : α} {va vb vc vd : Value} (hp : R p [va, vb, vc, vd]) (h : Reps R 4 ps cs) : Reps R 4 (p :: ps) (va :: vb :: vc :: vd :: cs) := Reps.front hp rfl h rfl
theorem Reps.c5 {α : Type} {R : α → List Value → Prop} {ps : List α} {cs : List Value} {p : α} {va vb vc vd ve : Value} (hp : R p [va, vb, vc, vd, ve]) (h : Reps R 5 ps cs) : Reps R 5 (p :: ps) (va :: vb :: vc :: vd :: ve :: cs) := Reps.front hp rfl h rfl
theorem Reps.c6 {α : Type} {R : α → List Value → Prop} {ps : List α} {cs : List Value} {p : α} {va vb vc vd ve vf : Value} (hp : R p [va, vb, vc, vd, ve, vf]) (h : Reps R 6 ps cs) : Reps R 6 (p :: ps) (va :: vb :: vc :: vd :: ve :: vf :: cs) := Reps.front hp rfl h rfl
theorem Reps.c7 {α : Type} {R : α → List Value → Prop} {ps : List α} {cs : List Value} {p : α} {va vb vc vd ve vf vg : Value} (hp : R p [va, vb, vc, vd, ve, vf, vg]) (h : Reps R 7 ps cs) : Reps R 7 (p :: ps) (va :: vb :: vc :: vd :: ve :: vf :: vg :: cs) := Reps.front hp rfl h rfl
theorem Reps.c8 {α : Type} {R : α → List Value → Prop} {ps : List α} {cs : List Value} {p : α} {va vb vc vd ve vf vg vh : Value} (hp : R p [va, vb, vc, vd, ve, vf, vg, vh]) (h : Reps R 8 ps cs) : Reps R 8 (p :: ps) (va :: vb :: vc :: vd :: ve :: vf :: vg :: vh :: cs) := Reps.front hp rfl h rfl
theorem Reps.c9 {α : Type} {R : α → List Value → Prop} {ps : List α} {cs : List Value} {p : α} {va vb vc vd ve vf vg vh vi : Value} (hp : R p [va, vb, vc, vd, ve, vf, vg, vh, vi]) (h : Reps R 9 ps cs) : Reps R 9 (p :: ps) (va :: vb :: vc :: vd :: ve :: vf :: vg :: vh :: vi :: cs) := Reps.front hp rfl h rfl
theorem Reps.c10 {α : Type} {R : α → List Value → Prop} {ps : List α} {cs : List Value} {p : α} {va vb vc vd ve vf vg vh vi vj : Value} (hp : R p [va, vb, vc, vd, ve, vf, vg, vh, vi, vj]) (h : Reps R 10 ps cs) : Reps R 10 (p :: ps) (va :: vb :: vc :: vd :: ve :: vf :: vg :: vh :: vi :: vj :: cs) := Reps.front hp rfl h rfl
end Go.Proofs.YthlmgbdknjilpaaGreatW.PrintWords
namespace Go.Proofs.YthlmgbdknjilpaaGreatW.PrintLast
def up (b : Nat → Bool) (i : Nat) : Nat → Bool := fun j => if j = i then true else b j
section
variable {P : Program} {ops : Array Oper} {Q : Exit → Act → World → Prop} {md : Region.Mode} {T : Bool × List (List Nat × List Nat)} {B : List Nat} {O : List Nat} {b : Nat → Bool} {i j n : Nat}
theorem put_comm {a : Act} {s t : Tmp} {u v : Value} (h : s ≠ t) : (a.put (some s) u).put (some t) v = (a.put (some t) v).put (some s) u := by
  simp only [Act.put]
  rw [Array.setIfInBounds_comm _ _ h]
end
end Go.Proofs.YthlmgbdknjilpaaGreatW.PrintLast
namespace Go.Proofs.YthlmgbdknjilpaaGreatW.PrintWords
open Go.RowKit
theorem Kd.R_slice1 {α : Type} {d : Kd α} {e base : Nat} {ok : Nat → Prop} {w : World} {v : Value} {xs : List α} (h : d.R e w base ok v xs) (hn : 0 < xs.length) : ∃ (ad : Addr) (c : Nat), v = .slice (some ad) xs.length c := by
  obtain ⟨A, c, rfl⟩ := Kd.R_slice h
  have h2 := (Kd.R_reads' h).2.2
  obtain ⟨ad, he, _⟩ := h2.2.2 hn
  subst he
  exact ⟨ad, c, rfl⟩
end Go.Proofs.YthlmgbdknjilpaaGreatW.PrintWords
namespace Go.Proofs.YthlmgbdknjilpaaGreatW.PrintLast
section
variable {ops : Array Oper} {a : Act} {o og : Oper} {g : Nat} {t : Tmp} {u : Bool}
end
end Go.Proofs.YthlmgbdknjilpaaGreatW.PrintLast
namespace Go.Proofs.YthlmgbdknjilpaaGreatW.PrintWords
open Go.RowKit
section
variable {P : Program} {ops : Array Oper} {rest : List Oper} {o : Oper} {a : Act} {Q : Exit → Act → World → Prop} {W : World}
theorem gate_guard (hw : Region.wanted o (yielded ops a.tmps) = true) (h : wpList P ops Q ({ o with guard := none } :: rest) a W) : wpList P ops Q (o :: rest) a W := by
  have h1 : Region.wanted { o with guard := none } (yielded ops a.tmps) = true := rfl
  unfold wpList at h ⊢
  rw [if_pos h1] at h
  rw [if_pos hw]
  exact h
end
end Go.Proofs.YthlmgbdknjilpaaGreatW.PrintWords
namespace Go.Proofs.YthlmgbdknjilpaaGreat.PAskKinds
open Go.RowKit Go.Proofs.YthlmgbdknjilpaaGreatW.PrintWords Go.Proofs.YthlmgbdknjilpaaGreatW.PrintLast Go.Proofs.YthlmgbdknjilpaaGreatW.PrintMore
attribute [local go_sem] max2_int min2_int max_two min_two max_three min_three max_four min_four
set_option linter.unusedVariables false
set_option linter.unusedSimpArgs false
def errW : Option Int → Value
  | none => .nilIface
  | some c => .iface 0 (.int .i64 c)
theorem errW_none : errW none = .nilIface := rfl
theorem errW_some (c : Int) : errW (some c) = .iface 0 (.int .i64 c) := rfl
theorem info2 : (Tryz.prog.info? 2).map (fun i => (i.zero, i.size, i.bytes)) = some (some (.int .i64 0), 1, 8) := by kernel_rfl
theorem info3 : (Tryz.prog.info? 3).map (fun i => (i.zero, i.size, i.bytes)) = some (some (.int .i64 0), 1, 8) := by kernel_rfl
theorem info31 : (Tryz.prog.info? 31).map (fun i => (i.zero, i.size, i.bytes)) = some (some (.agg #[(.int .i64 0), (.int .i64 0)]), 2, 16) := by kernel_rfl
theorem info42 : (Tryz.prog.info? 42).map (fun i => (i.zero, i.size, i.bytes)) = some (some (.agg #[(.bool false), (.bool false), (.slice none 0 0), (.slice none 0 0), (.slice none 0 0)]), 5, 80) := by kernel_rfl
structure S31 where
  f0 : Int
  f1 : Int
def z31 : S31 := ⟨(0 : Int), (0 : Int)⟩
def k31 : Kd S31 := Kd.iso (Kd.pair (Kd.int .i64) (Kd.int .i64)) (fun x : S31 => (x.f0, x.f1))
theorem k31_open {w : World} {x : S31} {cs : List Value} (h : k31.K w x cs) : cs = [.int .i64 x.f0, .int .i64 x.f1] := by
  obtain ⟨_, _, rfl, rfl, rfl⟩ := h
  exact rfl
theorem k31_mkM (w : World) (base : Nat) (ok : Nat → Prop) (x : S31)  : k31.M w base ok x [.int .i64 x.f0, .int .i64 x.f1] := ⟨[.int .i64 x.f0], [.int .i64 x.f1], rfl, rfl, rfl⟩
def rd_T31 (xs : List S31) (i : Int) : S31 := xs.getD i.toNat z31
theorem at_T31 {w : World} {A : Option Addr} {n : Nat} {xs : List S31} (h : Kd.C k31 w A n xs) (i : Int) (h0 : 0 ≤ i) (h1 : i < n) : ∃ ad , A = some ad ∧ w.cell? (ad.add (i.toNat * 2)) = some (.int .i64 (rd_T31 xs i).f0) ∧ w.cell? ⟨(ad.add (i.toNat * 2)).block, (ad.add (i.toNat * 2)).off + 1, none⟩ = some (.int .i64 (rd_T31 xs i).f1) := by
  obtain ⟨ad, c, e, _, hK, hc0⟩ := Kd.C_get h z31 i h0 h1
  have hc : ∀ j u, c[j]? = some u → w.cell? (ad.add (i.toNat * 2 + j)) = some u := hc0
  obtain rfl := k31_open hK
  exact ⟨ad, e, hc 0 _ rfl, by rw [← add_field _ _ 1 (by omega)]; exact hc 1 _ rfl⟩
structure S117 where
  f0 : (List Int)
  f1 : (List Int)
def k117 : Kd S117 := Kd.iso (Kd.pair (Kd.slice 2 (Kd.int .i64)) (Kd.slice 55 (Kd.int .i64))) (fun x : S117 => (x.f0, x.f1))
structure S119 where
  f0 : Bool
  f1 : Bool
  f2 : (List S31)
  f3 : S117
def k119 : Kd S119 := Kd.iso (Kd.pair Kd.bool (Kd.pair Kd.bool (Kd.pair (Kd.slice 31 k31) k117))) (fun x : S119 => (x.f0, x.f1, x.f2, x.f3))
structure S149 where
  f0 : S119
  f1 : (List Int)
  f2 : Int
  f3 : Bool
  f4 : Int
  f5 : Bool
def k149 : Kd S149 := Kd.iso (Kd.pair k119 (Kd.pair (Kd.slice 55 (Kd.int .i64)) (Kd.pair (Kd.int .i64) (Kd.pair Kd.bool (Kd.pair (Kd.int .u32) Kd.bool))))) (fun x : S149 => (x.f0, x.f1, x.f2, x.f3, x.f4, x.f5))
structure S42 where
  f0 : Bool
  f1 : Bool
  f2 : (List S31)
  f3 : (List Int)
  f4 : (List S42)
def z42 : S42 := ⟨false, false, ([] : List S31), ([] : List Int), ([] : List S42)⟩
def F42 (d : Kd S42) : Kd S42 := Kd.iso (Kd.pair Kd.bool (Kd.pair Kd.bool (Kd.pair (Kd.slice 31 k31) (Kd.pair (Kd.slice 2 (Kd.int .i64)) (Kd.slice 42 d))))) (fun x : S42 => (x.f0, x.f1, x.f2, x.f3, x.f4))
theorem mono42 : Kd.Mono F42 := Kd.mono_iso _ (Kd.mono_pair (Kd.mono_const _) (Kd.mono_pair (Kd.mono_const _) (Kd.mono_pair (Kd.mono_const _) (Kd.mono_pair (Kd.mono_const _) (Kd.mono_slice 42 Kd.mono_id)))))
theorem sub42 : Kd.Sub F42 [2, 31, 42] := Kd.sub_iso _ (Kd.sub_pair (Kd.sub_const _ (by decide)) (Kd.sub_pair (Kd.sub_const _ (by decide)) (Kd.sub_pair (Kd.sub_const _ (by decide)) (Kd.sub_pair (Kd.sub_const _ (by decide)) (Kd.sub_slice 42 (by decide) Kd.sub_id)))))
theorem sz42 : ∀ n, (Kd.upto F42 5 [2, 31, 42] n).sz = 5 := Kd.upto_sz (fun _ => rfl)
def k42 : Kd S42 := Kd.fix F42 5 [2, 31, 42] sz42 (Kd.upto_E sub42)
theorem k42_open {w : World} {x : S42} {cs : List Value} (h : k42.K w x cs) : ∃ A2 c2 A3 c3 A4 c4, cs = [.bool x.f0, .bool x.f1, .slice A2 x.f2.length c2, .slice A3 x.f3.length c3, .slice A4 x.f4.length c4] ∧ x.f2.length ≤ c2 ∧ k31.C w A2 x.f2.length x.f2 ∧ x.f3.length ≤ c3 ∧ (Kd.int .i64).C w A3 x.f3.length x.f3 ∧ x.f4.length ≤ c4 ∧ k42.C w A4 x.f4.length x.f4 := by
  obtain ⟨n, h⟩ := h
  cases n with
  | zero => exact h.elim
  | succ n =>
    obtain ⟨_, _, rfl, rfl, ⟨_, _, rfl, rfl, ⟨_, _, rfl, ⟨A2, c2, rfl, l2, g2⟩, ⟨_, _, rfl, ⟨A3, c3, rfl, l3, g3⟩, ⟨A4, c4, rfl, l4, g4⟩⟩⟩⟩⟩ := h
    exact ⟨A2, c2, A3, c3, A4, c4, rfl, l2, g2, l3, g3, l4, Kd.fix_C g4⟩
theorem k42_mk (w : World) (x : S42) {A2 : Option Addr} {c2 : Nat} (l2 : x.f2.length ≤ c2) (g2 : k31.C w A2 x.f2.length x.f2) {A3 : Option Addr} {c3 : Nat} (l3 : x.f3.length ≤ c3) (g3 : (Kd.int .i64).C w A3 x.f3.length x.f3) {A4 : Option Addr} {c4 : Nat} (l4 : x.f4.length ≤ c4) (g4 : k42.C w A4 x.f4.length x.f4) : k42.K w x [.bool x.f0, .bool x.f1, .slice A2 x.f2.length c2, .slice A3 x.f3.length c3, .slice A4 x.f4.length c4] := by
  obtain ⟨n4, q4⟩ := Kd.fix_C_back mono42 g4
  have r4 := Kd.upto_C_le mono42 sz42 (show n4 ≤ n4 by omega) q4
  exact ⟨n4 + 1, ⟨[.bool x.f0], [.bool x.f1, .slice A2 x.f2.length c2, .slice A3 x.f3.length c3, .slice A4 x.f4.length c4], rfl, rfl, ⟨[.bool x.f1], [.slice A2 x.f2.length c2, .slice A3 x.f3.length c3, .slice A4 x.f4.length c4], rfl, rfl, ⟨[.slice A2 x.f2.length c2], [.slice A3 x.f3.length c3, .slice A4 x.f4.length c4], rfl, ⟨A2, c2, rfl, l2, g2⟩, ⟨[.slice A3 x.f3.length c3], [.slice A4 x.f4.length c4], rfl, ⟨A3, c3, rfl, l3, g3⟩, ⟨A4, c4, rfl, l4, r4⟩⟩⟩⟩⟩⟩
theorem k42_openF {W : World} {ok : Nat → Prop} {x : S42} {cs : List Value} (h : Kd.FK k42 W ok x cs) : ∃ A2 c2 A3 c3 A4 c4, cs = [.bool x.f0, .bool x.f1, .slice A2 x.f2.length c2, .slice A3 x.f3.length c3, .slice A4 x.f4.length c4] ∧ x.f2.length ≤ c2 ∧ Kd.F k31 W ok A2 x.f2.length x.f2 ∧ x.f3.length ≤ c3 ∧ Kd.F (Kd.int .i64) W ok A3 x.f3.length x.f3 ∧ x.f4.length ≤ c4 ∧ Kd.F k42 W ok A4 x.f4.length x.f4 := by
  obtain ⟨A2, c2, A3, c3, A4, c4, rfl, l2, _, l3, _, l4, _⟩ := k42_open (Kd.FK_now h)
  exact ⟨A2, c2, A3, c3, A4, c4, rfl, l2, (fun W' hW => by obtain ⟨A2_, c2_, A3_, c3_, A4_, c4_, he, l2_, g2_, l3_, g3_, l4_, g4_⟩ := k42_open (h W' hW); injection (Option.some.inj (show some (Value.slice A2 x.f2.length c2) = some (Value.slice A2_ x.f2.length c2_) from congrArg (fun l => l[2]?) he)) with ha_ _ _; rw [ha_]; exact g2_), l3, (fun W' hW => by obtain ⟨A2_, c2_, A3_, c3_, A4_, c4_, he, l2_, g2_, l3_, g3_, l4_, g4_⟩ := k42_open (h W' hW); injection (Option.some.inj (show some (Value.slice A3 x.f3.length c3) = some (Value.slice A3_ x.f3.length c3_) from congrArg (fun l => l[3]?) he)) with ha_ _ _; rw [ha_]; exact g3_), l4, (fun W' hW => by obtain ⟨A2_, c2_, A3_, c3_, A4_, c4_, he, l2_, g2_, l3_, g3_, l4_, g4_⟩ := k42_open (h W' hW); injection (Option.some.inj (show some (Value.slice A4 x.f4.length c4) = some (Value.slice A4_ x.f4.length c4_) from congrArg (fun l => l[4]?) he)) with ha_ _ _; rw [ha_]; exact g4_)⟩
theorem k42_mkF (W : World) (ok : Nat → Prop) (x : S42) {A2 : Option Addr} {c2 : Nat} (l2 : x.f2.length ≤ c2) (g2 : Kd.F k31 W ok A2 x.f2.length x.f2) {A3 : Option Addr} {c3 : Nat} (l3 : x.f3.length ≤ c3) (g3 : Kd.F (Kd.int .i64) W ok A3 x.f3.length x.f3) {A4 : Option Addr} {c4 : Nat} (l4 : x.f4.length ≤ c4) (g4 : Kd.F k42 W ok A4 x.f4.length x.f4) : Kd.FK k42 W ok x [.bool x.f0, .bool x.f1, .slice A2 x.f2.length c2, .slice A3 x.f3.length c3, .slice A4 x.f4.length c4] := fun W2 hW => k42_mk W2 x l2 (g2 W2 hW) l3 (g3 W2 hW) l4 (g4 W2 hW)
def rd_T42 (xs : List S42) (i : Int) : S42 := xs.getD i.toNat z42
theorem at_T42 {w : World} {A : Option Addr} {n : Nat} {xs : List S42} (h : Kd.C k42 w A n xs) (i : Int) (h0 : 0 ≤ i) (h1 : i < n) : ∃ ad A2 c2 A3 c3 A4 c4, A = some ad ∧ w.cell? (ad.add (i.toNat * 5)) = some (.bool (rd_T42 xs i).f0) ∧ w.cell? ⟨(ad.add (i.toNat * 5)).block, (ad.add (i.toNat * 5)).off + 1, none⟩ = some (.bool (rd_T42 xs i).f1) ∧ w.cell? ⟨(ad.add (i.toNat * 5)).block, (ad.add (i.toNat * 5)).off + 2, none⟩ = some (.slice A2 (rd_T42 xs i).f2.length c2) ∧ w.cell? ⟨(ad.add (i.toNat * 5)).block, (ad.add (i.toNat * 5)).off + 3, none⟩ = some (.slice A3 (rd_T42 xs i).f3.length c3) ∧ w.cell? ⟨(ad.add (i.toNat * 5)).block, (ad.add (i.toNat * 5)).off + 4, none⟩ = some (.slice A4 (rd_T42 xs i).f4.length c4) ∧ (rd_T42 xs i).f2.length ≤ c2 ∧ k31.C w A2 (rd_T42 xs i).f2.length (rd_T42 xs i).f2 ∧ (rd_T42 xs i).f3.length ≤ c3 ∧ (Kd.int .i64).C w A3 (rd_T42 xs i).f3.length (rd_T42 xs i).f3 ∧ (rd_T42 xs i).f4.length ≤ c4 ∧ k42.C w A4 (rd_T42 xs i).f4.length (rd_T42 xs i).f4 := by
  obtain ⟨ad, c, e, _, hK, hc0⟩ := Kd.C_get h z42 i h0 h1
  have hc : ∀ j u, c[j]? = some u → w.cell? (ad.add (i.toNat * 5 + j)) = some u := hc0
  obtain ⟨A2, c2, A3, c3, A4, c4, rfl, l2, g2, l3, g3, l4, g4⟩ := k42_open hK
  exact ⟨ad, A2, c2, A3, c3, A4, c4, e, hc 0 _ rfl, by rw [← add_field _ _ 1 (by omega)]; exact hc 1 _ rfl, by rw [← add_field _ _ 2 (by omega)]; exact hc 2 _ rfl, by rw [← add_field _ _ 3 (by omega)]; exact hc 3 _ rfl, by rw [← add_field _ _ 4 (by omega)]; exact hc 4 _ rfl, l2, g2, l3, g3, l4, g4⟩
end Go.Proofs.YthlmgbdknjilpaaGreat.PAskKinds
namespace Go.Proofs.YthlmgbdknjilpaaGreat.PAskKinds
open Go.RowKit Go.Proofs.YthlmgbdknjilpaaGreatW.PrintWords Go.Proofs.YthlmgbdknjilpaaGreatW.PrintLast Go.Proofs.YthlmgbdknjilpaaGreatW.PrintMore
attribute [local go_sem] max2_int min2_int max_two min_two max_three min_three max_four min_four
set_option linter.unusedVariables false
set_option linter.unusedSimpArgs false
theorem eqA31 (d : Nat) (w : World) (x0 y0 : Int) (x1 y1 : Int) :
    (Op.equalIn (d + 2) 31 (.agg #[.int .i64 x0, .int .i64 x1]) (.agg #[.int .i64 y0, .int .i64 y1])).run Tryz.prog w = .ok (x0 == y0 && (x1 == y1)) w := by
  refine eqA_of Tryz.underlying31 (by kernel_rfl) ?_
  refine eqf_cons (by rfl) (by go_simp; rfl) (by go_simp; rfl) (by go_simp) ?_
  exact eqf_last (by rfl) (by go_simp; rfl) (by go_simp; rfl) (by go_simp)
end Go.Proofs.YthlmgbdknjilpaaGreat.PAskKinds
namespace Go.Proofs.YthlmgbdknjilpaaGreat.PAskKinds
open Go.RowKit Go.Proofs.YthlmgbdknjilpaaGreatW.PrintWords Go.Proofs.YthlmgbdknjilpaaGreatW.PrintLast Go.Proofs.YthlmgbdknjilpaaGreatW.PrintMore
attribute [local go_sem] max2_int min2_int max_two min_two max_three min_three max_four min_four
set_option linter.unusedVariables false
set_option linter.unusedSimpArgs false
attribute [local go_sem high] eqA31
def boscagelaw02_Same.l0 : Nat → List (S31) → List (S31) → Int → Int → Option (Bool)
  | 0, _, _, _, _ => none
  | k + 1, x0, x1, x12, x13 => if x13 < x12 then (if 0 ≤ x13 then (if x13 < (x0.length : Int) then (if x13 < (x1.length : Int) then (if (!(((rd_T31 x0 x13).f0) == ((rd_T31 x1 x13).f0)) || (!(((rd_T31 x0 x13).f1) == ((rd_T31 x1 x13).f1)))) = true then (some false) else (boscagelaw02_Same.l0 k x0 x1 x12 (wrap64 (x13 + 1)))) else (none)) else (none)) else (none)) else (some true)
def boscagelaw02_Same.f (k : Nat) (l0 : List (S31)) (l1 : List (S31)) : Option (Bool) := if (l0.length : Int) = (l1.length : Int) then (boscagelaw02_Same.l0 k l0 l1 (l0.length : Int) 0) else (some false)
theorem boscagelaw02_Same.mono_l : ∀ k, (∀ y0 y1 y2 y3, LeO (boscagelaw02_Same.l0 k y0 y1 y2 y3) (boscagelaw02_Same.l0 (k + 1) y0 y1 y2 y3))
  | 0 => fun _ _ _ _ r h => by simp [boscagelaw02_Same.l0] at h
  | k + 1 => by
    have ih0 := boscagelaw02_Same.mono_l k
    · intro y0 y1 y2 y3
      unfold boscagelaw02_Same.l0
      repeat' first
      | (with_reducible exact ih0 _ _ _ _)
      | (with_reducible exact LeO.refl _)
      | (with_reducible exact LeO.none _)
      | (with_reducible refine LeO.ite ?_ ?_)
      | (with_reducible refine LeO.bind ?_ (fun _ => ?_))
      | exact ih0 _ _ _ _
      | exact LeO.none _
      | refine LeO.ite ?_ ?_
      | refine LeO.bind ?_ (fun _ => ?_)
theorem boscagelaw02_Same.mono : ∀ a0 a1 k, LeO (boscagelaw02_Same.f k a0 a1) (boscagelaw02_Same.f (k + 1) a0 a1) := by
  intro a0 a1 k
  have ih0 := boscagelaw02_Same.mono_l k
  unfold boscagelaw02_Same.f
  repeat' first
      | (with_reducible exact ih0 _ _ _ _)
      | (with_reducible exact LeO.refl _)
      | (with_reducible exact LeO.none _)
      | (with_reducible refine LeO.ite ?_ ?_)
      | (with_reducible refine LeO.bind ?_ (fun _ => ?_))
      | exact ih0 _ _ _ _
      | exact LeO.none _
      | refine LeO.ite ?_ ?_
      | refine LeO.bind ?_ (fun _ => ?_)
set_option maxHeartbeats 8000000 in
set_option maxRecDepth 100000 in
theorem boscagelaw02_Same.calls (k : Nat) (A0 : Option Addr) (c0 : Nat) (l0 : List (S31)) (A1 : Option Addr) (c1 : Nat) (l1 : List (S31)) (r : Bool) (w : World) (hr0 : Kd.C k31 w A0 l0.length l0) (hc0 : l0.length ≤ c0) (hr1 : Kd.C k31 w A1 l1.length l1) (hc1 : l1.length ≤ c1) (h : boscagelaw02_Same.f k l0 l1 = some r) :
    Calls Tryz.prog 23 #[.slice A0 l0.length c0, .slice A1 l1.length c1] w fun e w' => e = .returned (.bool r) ∧ Drawn0 w w' := by
  have hu31 := Tryz.underlying31
  have HR0 := Aside0.mk hr0
  have HC0 := Aside0.mk hc0
  clear hr0 hc0
  have HR1 := Aside0.mk hr1
  have HC1 := Aside0.mk hc1
  clear hr1 hc1
  have H : (if (l0.length : Int) = (l1.length : Int) then (boscagelaw02_Same.l0 k l0 l1 (l0.length : Int) 0) else (some false)) = some r := h
  clear h
  by_cases c3 : (l0.length : Int) = (l1.length : Int)
  · rw [if_pos c3] at H
    have c3b0 : ((l0.length : Int) == (l1.length : Int)) = true := beq_iff_eq.mpr c3
    have c3b1 : ((l0.length : Int) != (l1.length : Int)) = false := bne_eq_false_iff_eq.mpr c3
    have c3b2 : (l0.length == l1.length) = true := by first | simpa using c3 | (simp at c3 ⊢; omega)
    clear c3
    have H' := Aside0.mk H
    clear H
    go_enter Tryz.func23, Tryz.ntmps23
    go_wp2
    repeat (go_quiet (fail); try go_wp2)
    go_loopg [13] k (fun kq v13 w' => ∃ (x13_1 : Int), v13 = .int .i64 x13_1 ∧ Aside0 (boscagelaw02_Same.l0 kq l0 l1 (l0.length : Int) x13_1 = some r) ∧ Aside0 (kq ≤ k) ∧ Drawn0 w w')
    case atStart => exact ⟨(0), (by first | rfl | (simp; done) | (simp [*]; done)), H', ⟨Nat.le_refl _⟩, by repeat (first | exact Drawn0.refl _ | apply Drawn0.step)⟩
    case round =>
      clear H'
      try clear c1
      try clear c2
      try clear p2
      try clear c3
      try clear c3b0
      try clear c3b1
      try clear c3b2
      obtain ⟨x13_1, rfl, HA, HK1, ⟨m1, rfl⟩⟩ := hrel
      cases gk with
      | zero => exact absurd HA.out (by simp [boscagelaw02_Same.l0])
      | succ k1 =>
        have H := HA.out
        clear HA
        simp only [boscagelaw02_Same.l0] at H
        by_cases c4 : x13_1 < (l0.length : Int)
        · rw [if_pos c4] at H
          have c4b0 : decide (x13_1 < (l0.length : Int)) = true := decide_eq_true c4
          clear c4
          by_cases c5 : 0 ≤ x13_1
          · rw [if_pos c5] at H
            have c5b0 : decide (0 ≤ x13_1) = true := decide_eq_true c5
            clear c5
            by_cases c6 : x13_1 < (l0.length : Int)
            · rw [if_pos c6] at H
              have c6b0 : decide (x13_1 < (l0.length : Int)) = true := decide_eq_true c6
              clear c6
              by_cases c7 : x13_1 < (l1.length : Int)
              · rw [if_pos c7] at H
                have c7b0 : decide (x13_1 < (l1.length : Int)) = true := decide_eq_true c7
                clear c7
                by_cases c8 : (!(((rd_T31 l0 x13_1).f0) == ((rd_T31 l1 x13_1).f0)) || (!(((rd_T31 l0 x13_1).f1) == ((rd_T31 l1 x13_1).f1)))) = true
                · rw [if_pos c8] at H
                  have c8b0 : (!(((rd_T31 l0 x13_1).f0) == ((rd_T31 l1 x13_1).f0)) || (!(((rd_T31 l0 x13_1).f1) == ((rd_T31 l1 x13_1).f1)))) = true := c8
                  clear c8
                  obtain rfl := Option.some.inj H
                  have p136 : 0 ≤ (x13_1 : Int) := of_decide_eq_true (by first | (with_reducible assumption) | assumption)
                  have q136 : x13_1 < (l0.length : Int) := of_decide_eq_true (by first | (with_reducible assumption) | assumption)
                  obtain ⟨ad136, e136, hx136_0, hx136_1⟩ := at_T31 HR0.out x13_1 p136 q136
                  cases e136
                  replace p136 := eq_true p136
                  replace q136 := eq_true q136
                  have p137 : 0 ≤ (x13_1 : Int) := of_decide_eq_true (by first | (with_reducible assumption) | assumption)
                  have q137 : x13_1 < (l1.length : Int) := of_decide_eq_true (by first | (with_reducible assumption) | assumption)
                  obtain ⟨ad137, e137, hx137_0, hx137_1⟩ := at_T31 HR1.out x13_1 p137 q137
                  cases e137
                  replace p137 := eq_true p137
                  replace q137 := eq_true q137
                  go_wp2
                  repeat (go_quiet (fail); try go_wp2)
                  go_ret
                  exact ⟨by first | rfl | (simp; done) | (simp [*]; done), by repeat (first | exact Drawn0.refl _ | apply Drawn0.step)⟩
                · rw [if_neg c8] at H
                  have c8b0 : (!(((rd_T31 l0 x13_1).f0) == ((rd_T31 l1 x13_1).f0)) || (!(((rd_T31 l0 x13_1).f1) == ((rd_T31 l1 x13_1).f1)))) = false := by simpa using c8
                  clear c8
                  have H' := Aside0.mk H
                  clear H
                  have p136 : 0 ≤ (x13_1 : Int) := of_decide_eq_true (by first | (with_reducible assumption) | assumption)
                  have q136 : x13_1 < (l0.length : Int) := of_decide_eq_true (by first | (with_reducible assumption) | assumption)
                  obtain ⟨ad136, e136, hx136_0, hx136_1⟩ := at_T31 HR0.out x13_1 p136 q136
                  cases e136
                  replace p136 := eq_true p136
                  replace q136 := eq_true q136
                  have p137 : 0 ≤ (x13_1 : Int) := of_decide_eq_true (by first | (with_reducible assumption) | assumption)
                  have q137 : x13_1 < (l1.length : Int) := of_decide_eq_true (by first | (with_reducible assumption) | assumption)
                  obtain ⟨ad137, e137, hx137_0, hx137_1⟩ := at_T31 HR1.out x13_1 p137 q137
                  cases e137
                  replace p137 := eq_true p137
                  replace q137 := eq_true q137
                  go_wp2
                  repeat (go_quiet (fail); try go_wp2)
                  go_roundg k1
                  case measure => have := HK1.out; omega
                  case rel => exact ⟨(wrap64 (x13_1 + 1)), (by first | rfl | (simp; done) | (simp [*]; done)), H', ⟨by have := HK1.out; omega⟩, by repeat (first | exact Drawn0.refl _ | apply Drawn0.step)⟩
              · rw [if_neg c7] at H
                exact absurd H (by simp)
            · rw [if_neg c6] at H
              exact absurd H (by simp)
          · rw [if_neg c5] at H
            exact absurd H (by simp)
        · rw [if_neg c4] at H
          have c4b0 : decide (x13_1 < (l0.length : Int)) = false := decide_eq_false c4
          clear c4
          obtain rfl := Option.some.inj H
          go_wp2
          repeat (go_quiet (fail); try go_wp2)
          go_ret
          exact ⟨by first | rfl | (simp; done) | (simp [*]; done), by repeat (first | exact Drawn0.refl _ | apply Drawn0.step)⟩
  · rw [if_neg c3] at H
    have c3b0 : ((l0.length : Int) == (l1.length : Int)) = false := beq_eq_false_iff_ne.mpr c3
    have c3b1 : ((l0.length : Int) != (l1.length : Int)) = true := bne_iff_ne.mpr c3
    have c3b2 : (l0.length == l1.length) = false := by first | simpa using c3 | (simp at c3 ⊢; omega)
    obtain rfl := Option.some.inj H
    go_enter Tryz.func23, Tryz.ntmps23
    go_wp2
    repeat (go_quiet (fail); try go_wp2)
    go_ret
    exact ⟨by first | rfl | (simp; done) | (simp [*]; done), by repeat (first | exact Drawn0.refl _ | apply Drawn0.step)⟩
def boscagelaw18_Same.f (k : Nat) (a0_0 : Int) (a0_1 : Bool) (a0_2 : Int) (a0_3 : Int) (l0_4 : List (S31)) (a0_5 : Bool) (a1_0 : Int) (a1_1 : Bool) (a1_2 : Int) (a1_3 : Int) (l1_4 : List (S31)) (a1_5 : Bool) : Option (Bool) := if a0_0 = a1_0 then (if (a0_1 == a1_1) = true then (if a0_2 = a1_2 then (if a0_3 = a1_3 then ((boscagelaw02_Same.f k l0_4 l1_4).bind fun t140 => (some t140)) else (some false)) else (some false)) else (some false)) else (some false)
theorem boscagelaw18_Same.mono : ∀ a0 a1 a2 a3 a4 a5 a6 a7 a8 a9 a10 a11 k, LeO (boscagelaw18_Same.f k a0 a1 a2 a3 a4 a5 a6 a7 a8 a9 a10 a11) (boscagelaw18_Same.f (k + 1) a0 a1 a2 a3 a4 a5 a6 a7 a8 a9 a10 a11) := by
  intro a0 a1 a2 a3 a4 a5 a6 a7 a8 a9 a10 a11 k
  unfold boscagelaw18_Same.f
  repeat' first
      | (with_reducible exact boscagelaw02_Same.mono _ _ _)
      | (with_reducible exact LeO.refl _)
      | (with_reducible exact LeO.none _)
      | (with_reducible refine LeO.ite ?_ ?_)
      | (with_reducible refine LeO.bind ?_ (fun _ => ?_))
      | exact boscagelaw02_Same.mono _ _ _
      | exact LeO.none _
      | refine LeO.ite ?_ ?_
      | refine LeO.bind ?_ (fun _ => ?_)
set_option maxHeartbeats 8000000 in
set_option maxRecDepth 100000 in
theorem boscagelaw18_Same.calls (k : Nat) (a0_0 : Int) (a0_1 : Bool) (a0_2 : Int) (a0_3 : Int) (A0_4 : Option Addr) (c0_4 : Nat) (l0_4 : List (S31)) (a0_5 : Bool) (a1_0 : Int) (a1_1 : Bool) (a1_2 : Int) (a1_3 : Int) (A1_4 : Option Addr) (c1_4 : Nat) (l1_4 : List (S31)) (a1_5 : Bool) (r : Bool) (w : World) (hr0_4 : Kd.C k31 w A0_4 l0_4.length l0_4) (hc0_4 : l0_4.length ≤ c0_4) (hr1_4 : Kd.C k31 w A1_4 l1_4.length l1_4) (hc1_4 : l1_4.length ≤ c1_4) (h : boscagelaw18_Same.f k a0_0 a0_1 a0_2 a0_3 l0_4 a0_5 a1_0 a1_1 a1_2 a1_3 l1_4 a1_5 = some r) :
    Calls Tryz.prog 12 #[.agg #[.int .i64 a0_0, .bool a0_1, .int .i64 a0_2, .int .i64 a0_3, .slice A0_4 l0_4.length c0_4, .bool a0_5], .agg #[.int .i64 a1_0, .bool a1_1, .int .i64 a1_2, .int .i64 a1_3, .slice A1_4 l1_4.length c1_4, .bool a1_5]] w fun e w' => e = .returned (.bool r) ∧ Below w.heap.size w w' := by
  have hu26 := Tryz.underlying26
  have HR0_4 := Aside0.mk hr0_4
  have HC0_4 := Aside0.mk hc0_4
  clear hr0_4 hc0_4
  have HR1_4 := Aside0.mk hr1_4
  have HC1_4 := Aside0.mk hc1_4
  clear hr1_4 hc1_4
  have HB := Aside0.mk (Below.refl w.heap.size w)
  have H : (if a0_0 = a1_0 then (if (a0_1 == a1_1) = true then (if a0_2 = a1_2 then (if a0_3 = a1_3 then ((boscagelaw02_Same.f k l0_4 l1_4).bind fun t140 => (some t140)) else (some false)) else (some false)) else (some false)) else (some false)) = some r := h
  clear h
  by_cases c3 : a0_0 = a1_0
  · rw [if_pos c3] at H
    have c3b0 : (a0_0 == a1_0) = true := beq_iff_eq.mpr c3
    have c3b1 : (a0_0 != a1_0) = false := bne_eq_false_iff_eq.mpr c3
    clear c3
    by_cases c4 : (a0_1 == a1_1) = true
    · rw [if_pos c4] at H
      have c4b0 : (a0_1 == a1_1) = true := c4
      (try (have c4b1 : decide (a0_1 = a1_1) = true := by simpa using c4))
      (try (have c4b2 : (a0_1 == a1_1) = true := by simpa using c4))
      clear c4
      by_cases c5 : a0_2 = a1_2
      · rw [if_pos c5] at H
        have c5b0 : (a0_2 == a1_2) = true := beq_iff_eq.mpr c5
        have c5b1 : (a0_2 != a1_2) = false := bne_eq_false_iff_eq.mpr c5
        clear c5
        by_cases c6 : a0_3 = a1_3
        · rw [if_pos c6] at H
          have c6b0 : (a0_3 == a1_3) = true := beq_iff_eq.mpr c6
          have c6b1 : (a0_3 != a1_3) = false := bne_eq_false_iff_eq.mpr c6
          clear c6
          replace H := Option.bind_eq_some_iff.mp H
          obtain ⟨t140, A70, H⟩ := H
          replace H : (some t140) = some r := H
          have A7 := Aside0.mk A70
          clear A70
          obtain rfl := Option.some.inj H
          go_enter Tryz.func12, Tryz.ntmps12
          go_wp2_with (first | ((with_reducible refine gate_dst (N := 2) rfl ?_); refine box_event ?hg (N := 2) ?hd (cs := #[.int .i64 a0_0, .bool a0_1, .int .i64 a0_2, .int .i64 a0_3, .slice A0_4 l0_4.length c0_4, .bool a0_5]) (t := 26) ?hr ?_; (case hd => rfl); (case hg => rfl); (case hr => first | (go_simp; done) | (go_simp; rfl)); intro gb138 hg w8 hbox hb; have n0_ := Aside0.mk (below_step (by repeat (first | (with_reducible first | exact HB.out | apply below_alloc | apply pw_below_drewN | apply below_drew1) | exact HB.out)) hb); have n1_ := Aside0.mk (hbox); have n2_ := Aside0.mk ((by rw [hg]; exact (below_size (by repeat (first | (with_reducible first | exact HB.out | apply below_alloc | apply pw_below_drewN | apply below_drew1) | exact HB.out))) : w.heap.size ≤ gb138)); have n3_ := Aside0.mk ((by rw [hg]; exact (below_size (by repeat (first | (with_reducible first | exact HB.out | apply below_alloc | apply pw_below_drewN | apply below_drew1) | exact HB.out))) : w.heap.size ≤ gb138)); clear HB; have HB := n0_; have BK138 := n1_; have GW138 := n2_; have GE138 := n3_; clear n0_ n1_ n2_ n3_; clear hb hbox hg) | ((with_reducible refine gate_dst (N := 3) rfl ?_); refine box_event ?hg (N := 3) ?hd (cs := #[.int .i64 a1_0, .bool a1_1, .int .i64 a1_2, .int .i64 a1_3, .slice A1_4 l1_4.length c1_4, .bool a1_5]) (t := 26) ?hr ?_; (case hd => rfl); (case hg => rfl); (case hr => first | (go_simp; done) | (go_simp; rfl)); intro gb139 hg w9 hbox hb; have n0_ := Aside0.mk (blk_below (g := gb138) (o := .cells #[.int .i64 a0_0, .bool a0_1, .int .i64 a0_2, .int .i64 a0_3, .slice A0_4 l0_4.length c0_4, .bool a0_5] 26 (0, 0)) (by (with_reducible repeat (first | refine blk_drewN ?_ _ | refine blk_drew ?_ | refine blk_alloc ?_ _)); exact BK138.out) hb); have n1_ := Aside0.mk (below_step (by repeat (first | (with_reducible first | exact HB.out | apply below_alloc | apply pw_below_drewN | apply below_drew1 | refine below_set ?_ GE138.out) | exact HB.out)) hb); have n2_ := Aside0.mk (hbox); have n3_ := Aside0.mk ((by rw [hg]; exact (below_size (by repeat (first | (with_reducible first | exact HB.out | apply below_alloc | apply pw_below_drewN | apply below_drew1 | refine below_set ?_ GE138.out) | exact HB.out))) : w.heap.size ≤ gb139)); have n4_ := Aside0.mk ((by rw [hg]; exact (below_size (by repeat (first | (with_reducible first | exact HB.out | apply below_alloc | apply pw_below_drewN | apply below_drew1 | refine below_set ?_ GE138.out) | exact HB.out))) : w.heap.size ≤ gb139)); have n5_ := Aside0.mk ((by rw [hg]; exact Nat.ne_of_lt (blk_lt (g := gb138) (o := .cells #[.int .i64 a0_0, .bool a0_1, .int .i64 a0_2, .int .i64 a0_3, .slice A0_4 l0_4.length c0_4, .bool a0_5] 26 (0, 0)) (by (with_reducible repeat (first | refine blk_drewN ?_ _ | refine blk_drew ?_ | refine blk_alloc ?_ _)); exact BK138.out)) : gb138 ≠ gb139)); have n6_ := Aside0.mk ((by rw [hg]; exact Nat.ne_of_gt (blk_lt (g := gb138) (o := .cells #[.int .i64 a0_0, .bool a0_1, .int .i64 a0_2, .int .i64 a0_3, .slice A0_4 l0_4.length c0_4, .bool a0_5] 26 (0, 0)) (by (with_reducible repeat (first | refine blk_drewN ?_ _ | refine blk_drew ?_ | refine blk_alloc ?_ _)); exact BK138.out)) : gb139 ≠ gb138)); clear BK138; clear HB; have BK138 := n0_; have HB := n1_; have BK139 := n2_; have GW139 := n3_; have GE139 := n4_; have NB138_139 := n5_; have NB139_138 := n6_; clear n0_ n1_ n2_ n3_ n4_ n5_ n6_; clear hb hbox hg; have hnb10 := NB138_139.out; have hnc10 := NB139_138.out; have hcz11_0 : w9.cell? ⟨gb138, 0, none⟩ = some (.int .i64 a0_0) := (blk_cell BK138.out 0).trans rfl; have hcz11_1 : w9.cell? ⟨gb138, 1, none⟩ = some (.bool a0_1) := (blk_cell BK138.out 1).trans rfl; have hcz11_2 : w9.cell? ⟨gb138, 2, none⟩ = some (.int .i64 a0_2) := (blk_cell BK138.out 2).trans rfl; have hcz11_3 : w9.cell? ⟨gb138, 3, none⟩ = some (.int .i64 a0_3) := (blk_cell BK138.out 3).trans rfl; have hcz11_4 : w9.cell? ⟨gb138, 4, none⟩ = some (.slice A0_4 l0_4.length c0_4) := (blk_cell BK138.out 4).trans rfl; have hcz11_5 : w9.cell? ⟨gb138, 5, none⟩ = some (.bool a0_5) := (blk_cell BK138.out 5).trans rfl; have hfz11_0 := blk_frozen BK138.out 0; have hfz11_1 := blk_frozen BK138.out 1; have hfz11_2 := blk_frozen BK138.out 2; have hfz11_3 := blk_frozen BK138.out 3; have hfz11_4 := blk_frozen BK138.out 4; have hfz11_5 := blk_frozen BK138.out 5; have hcz12_0 : w9.cell? ⟨gb139, 0, none⟩ = some (.int .i64 a1_0) := (blk_cell BK139.out 0).trans rfl; have hcz12_1 : w9.cell? ⟨gb139, 1, none⟩ = some (.bool a1_1) := (blk_cell BK139.out 1).trans rfl; have hcz12_2 : w9.cell? ⟨gb139, 2, none⟩ = some (.int .i64 a1_2) := (blk_cell BK139.out 2).trans rfl; have hcz12_3 : w9.cell? ⟨gb139, 3, none⟩ = some (.int .i64 a1_3) := (blk_cell BK139.out 3).trans rfl; have hcz12_4 : w9.cell? ⟨gb139, 4, none⟩ = some (.slice A1_4 l1_4.length c1_4) := (blk_cell BK139.out 4).trans rfl; have hcz12_5 : w9.cell? ⟨gb139, 5, none⟩ = some (.bool a1_5) := (blk_cell BK139.out 5).trans rfl; have hfz12_0 := blk_frozen BK139.out 0; have hfz12_1 := blk_frozen BK139.out 1; have hfz12_2 := blk_frozen BK139.out 2; have hfz12_3 := blk_frozen BK139.out 3; have hfz12_4 := blk_frozen BK139.out 4; have hfz12_5 := blk_frozen BK139.out 5) | (go_at_call 23; (with_reducible refine (boscagelaw02_Same.calls k _ _ l0_4 _ _ l1_4 t140 _ ?side1 ?side2 ?side3 ?side4 A7.out).mono ?_); (case side1 => repeat (first | exact (Kd.C_below HR0_4.out HB.out) | (with_reducible refine Kd.C_alloc ?_ _) | (with_reducible refine Kd.C_drewN ?_ _) | (with_reducible refine Kd.C_drew ?_))); (case side2 => exact HC0_4.out); (case side3 => repeat (first | exact (Kd.C_below HR1_4.out HB.out) | (with_reducible refine Kd.C_alloc ?_ _) | (with_reducible refine Kd.C_drewN ?_ _) | (with_reducible refine Kd.C_drew ?_))); (case side4 => exact HC1_4.out); rintro e w' ⟨rfl, ⟨nd, rfl⟩⟩))
          go_ret
          exact ⟨by first | rfl | (simp [errW_none, errW_some] <;> rfl) | (simp [*, errW_none, errW_some] <;> rfl), by repeat (first | (with_reducible first | exact HB.out | apply below_alloc | apply pw_below_drewN | apply below_drew1 | refine below_set ?_ GE138.out | refine below_set ?_ GE139.out) | exact HB.out)⟩
        · rw [if_neg c6] at H
          have c6b0 : (a0_3 == a1_3) = false := beq_eq_false_iff_ne.mpr c6
          have c6b1 : (a0_3 != a1_3) = true := bne_iff_ne.mpr c6
          obtain rfl := Option.some.inj H
          go_enter Tryz.func12, Tryz.ntmps12
          go_wp2_with (first | ((with_reducible refine gate_dst (N := 2) rfl ?_); refine box_event ?hg (N := 2) ?hd (cs := #[.int .i64 a0_0, .bool a0_1, .int .i64 a0_2, .int .i64 a0_3, .slice A0_4 l0_4.length c0_4, .bool a0_5]) (t := 26) ?hr ?_; (case hd => rfl); (case hg => rfl); (case hr => first | (go_simp; done) | (go_simp; rfl)); intro gb138 hg w13 hbox hb; have n0_ := Aside0.mk (below_step (by repeat (first | (with_reducible first | exact HB.out | apply below_alloc | apply pw_below_drewN | apply below_drew1) | exact HB.out)) hb); have n1_ := Aside0.mk (hbox); have n2_ := Aside0.mk ((by rw [hg]; exact (below_size (by repeat (first | (with_reducible first | exact HB.out | apply below_alloc | apply pw_below_drewN | apply below_drew1) | exact HB.out))) : w.heap.size ≤ gb138)); have n3_ := Aside0.mk ((by rw [hg]; exact (below_size (by repeat (first | (with_reducible first | exact HB.out | apply below_alloc | apply pw_below_drewN | apply below_drew1) | exact HB.out))) : w.heap.size ≤ gb138)); clear HB; have HB := n0_; have BK138 := n1_; have GW138 := n2_; have GE138 := n3_; clear n0_ n1_ n2_ n3_; clear hb hbox hg) | ((with_reducible refine gate_dst (N := 3) rfl ?_); refine box_event ?hg (N := 3) ?hd (cs := #[.int .i64 a1_0, .bool a1_1, .int .i64 a1_2, .int .i64 a1_3, .slice A1_4 l1_4.length c1_4, .bool a1_5]) (t := 26) ?hr ?_; (case hd => rfl); (case hg => rfl); (case hr => first | (go_simp; done) | (go_simp; rfl)); intro gb139 hg w14 hbox hb; have n0_ := Aside0.mk (blk_below (g := gb138) (o := .cells #[.int .i64 a0_0, .bool a0_1, .int .i64 a0_2, .int .i64 a0_3, .slice A0_4 l0_4.length c0_4, .bool a0_5] 26 (0, 0)) (by (with_reducible repeat (first | refine blk_drewN ?_ _ | refine blk_drew ?_ | refine blk_alloc ?_ _)); exact BK138.out) hb); have n1_ := Aside0.mk (below_step (by repeat (first | (with_reducible first | exact HB.out | apply below_alloc | apply pw_below_drewN | apply below_drew1 | refine below_set ?_ GE138.out) | exact HB.out)) hb); have n2_ := Aside0.mk (hbox); have n3_ := Aside0.mk ((by rw [hg]; exact (below_size (by repeat (first | (with_reducible first | exact HB.out | apply below_alloc | apply pw_below_drewN | apply below_drew1 | refine below_set ?_ GE138.out) | exact HB.out))) : w.heap.size ≤ gb139)); have n4_ := Aside0.mk ((by rw [hg]; exact (below_size (by repeat (first | (with_reducible first | exact HB.out | apply below_alloc | apply pw_below_drewN | apply below_drew1 | refine below_set ?_ GE138.out) | exact HB.out))) : w.heap.size ≤ gb139)); have n5_ := Aside0.mk ((by rw [hg]; exact Nat.ne_of_lt (blk_lt (g := gb138) (o := .cells #[.int .i64 a0_0, .bool a0_1, .int .i64 a0_2, .int .i64 a0_3, .slice A0_4 l0_4.length c0_4, .bool a0_5] 26 (0, 0)) (by (with_reducible repeat (first | refine blk_drewN ?_ _ | refine blk_drew ?_ | refine blk_alloc ?_ _)); exact BK138.out)) : gb138 ≠ gb139)); have n6_ := Aside0.mk ((by rw [hg]; exact Nat.ne_of_gt (blk_lt (g := gb138) (o := .cells #[.int .i64 a0_0, .bool a0_1, .int .i64 a0_2, .int .i64 a0_3, .slice A0_4 l0_4.length c0_4, .bool a0_5] 26 (0, 0)) (by (with_reducible repeat (first | refine blk_drewN ?_ _ | refine blk_drew ?_ | refine blk_alloc ?_ _)); exact BK138.out)) : gb139 ≠ gb138)); clear BK138; clear HB; have BK138 := n0_; have HB := n1_; have BK139 := n2_; have GW139 := n3_; have GE139 := n4_; have NB138_139 := n5_; have NB139_138 := n6_; clear n0_ n1_ n2_ n3_ n4_ n5_ n6_; clear hb hbox hg; have hnb15 := NB138_139.out; have hnc15 := NB139_138.out; have hcz16_0 : w14.cell? ⟨gb138, 0, none⟩ = some (.int .i64 a0_0) := (blk_cell BK138.out 0).trans rfl; have hcz16_1 : w14.cell? ⟨gb138, 1, none⟩ = some (.bool a0_1) := (blk_cell BK138.out 1).trans rfl; have hcz16_2 : w14.cell? ⟨gb138, 2, none⟩ = some (.int .i64 a0_2) := (blk_cell BK138.out 2).trans rfl; have hcz16_3 : w14.cell? ⟨gb138, 3, none⟩ = some (.int .i64 a0_3) := (blk_cell BK138.out 3).trans rfl; have hcz16_4 : w14.cell? ⟨gb138, 4, none⟩ = some (.slice A0_4 l0_4.length c0_4) := (blk_cell BK138.out 4).trans rfl; have hcz16_5 : w14.cell? ⟨gb138, 5, none⟩ = some (.bool a0_5) := (blk_cell BK138.out 5).trans rfl; have hfz16_0 := blk_frozen BK138.out 0; have hfz16_1 := blk_frozen BK138.out 1; have hfz16_2 := blk_frozen BK138.out 2; have hfz16_3 := blk_frozen BK138.out 3; have hfz16_4 := blk_frozen BK138.out 4; have hfz16_5 := blk_frozen BK138.out 5; have hcz17_0 : w14.cell? ⟨gb139, 0, none⟩ = some (.int .i64 a1_0) := (blk_cell BK139.out 0).trans rfl; have hcz17_1 : w14.cell? ⟨gb139, 1, none⟩ = some (.bool a1_1) := (blk_cell BK139.out 1).trans rfl; have hcz17_2 : w14.cell? ⟨gb139, 2, none⟩ = some (.int .i64 a1_2) := (blk_cell BK139.out 2).trans rfl; have hcz17_3 : w14.cell? ⟨gb139, 3, none⟩ = some (.int .i64 a1_3) := (blk_cell BK139.out 3).trans rfl; have hcz17_4 : w14.cell? ⟨gb139, 4, none⟩ = some (.slice A1_4 l1_4.length c1_4) := (blk_cell BK139.out 4).trans rfl; have hcz17_5 : w14.cell? ⟨gb139, 5, none⟩ = some (.bool a1_5) := (blk_cell BK139.out 5).trans rfl; have hfz17_0 := blk_frozen BK139.out 0; have hfz17_1 := blk_frozen BK139.out 1; have hfz17_2 := blk_frozen BK139.out 2; have hfz17_3 := blk_frozen BK139.out 3; have hfz17_4 := blk_frozen BK139.out 4; have hfz17_5 := blk_frozen BK139.out 5))
          go_ret
          exact ⟨by first | rfl | (simp [errW_none, errW_some] <;> rfl) | (simp [*, errW_none, errW_some] <;> rfl), by repeat (first | (with_reducible first | exact HB.out | apply below_alloc | apply pw_below_drewN | apply below_drew1 | refine below_set ?_ GE138.out | refine below_set ?_ GE139.out) | exact HB.out)⟩
      · rw [if_neg c5] at H
        have c5b0 : (a0_2 == a1_2) = false := beq_eq_false_iff_ne.mpr c5
        have c5b1 : (a0_2 != a1_2) = true := bne_iff_ne.mpr c5
        obtain rfl := Option.some.inj H
        go_enter Tryz.func12, Tryz.ntmps12
        go_wp2_with (first | ((with_reducible refine gate_dst (N := 2) rfl ?_); refine box_event ?hg (N := 2) ?hd (cs := #[.int .i64 a0_0, .bool a0_1, .int .i64 a0_2, .int .i64 a0_3, .slice A0_4 l0_4.length c0_4, .bool a0_5]) (t := 26) ?hr ?_; (case hd => rfl); (case hg => rfl); (case hr => first | (go_simp; done) | (go_simp; rfl)); intro gb138 hg w18 hbox hb; have n0_ := Aside0.mk (below_step (by repeat (first | (with_reducible first | exact HB.out | apply below_alloc | apply pw_below_drewN | apply below_drew1) | exact HB.out)) hb); have n1_ := Aside0.mk (hbox); have n2_ := Aside0.mk ((by rw [hg]; exact (below_size (by repeat (first | (with_reducible first | exact HB.out | apply below_alloc | apply pw_below_drewN | apply below_drew1) | exact HB.out))) : w.heap.size ≤ gb138)); have n3_ := Aside0.mk ((by rw [hg]; exact (below_size (by repeat (first | (with_reducible first | exact HB.out | apply below_alloc | apply pw_below_drewN | apply below_drew1) | exact HB.out))) : w.heap.size ≤ gb138)); clear HB; have HB := n0_; have BK138 := n1_; have GW138 := n2_; have GE138 := n3_; clear n0_ n1_ n2_ n3_; clear hb hbox hg) | ((with_reducible refine gate_dst (N := 3) rfl ?_); refine box_event ?hg (N := 3) ?hd (cs := #[.int .i64 a1_0, .bool a1_1, .int .i64 a1_2, .int .i64 a1_3, .slice A1_4 l1_4.length c1_4, .bool a1_5]) (t := 26) ?hr ?_; (case hd => rfl); (case hg => rfl); (case hr => first | (go_simp; done) | (go_simp; rfl)); intro gb139 hg w19 hbox hb; have n0_ := Aside0.mk (blk_below (g := gb138) (o := .cells #[.int .i64 a0_0, .bool a0_1, .int .i64 a0_2, .int .i64 a0_3, .slice A0_4 l0_4.length c0_4, .bool a0_5] 26 (0, 0)) (by (with_reducible repeat (first | refine blk_drewN ?_ _ | refine blk_drew ?_ | refine blk_alloc ?_ _)); exact BK138.out) hb); have n1_ := Aside0.mk (below_step (by repeat (first | (with_reducible first | exact HB.out | apply below_alloc | apply pw_below_drewN | apply below_drew1 | refine below_set ?_ GE138.out) | exact HB.out)) hb); have n2_ := Aside0.mk (hbox); have n3_ := Aside0.mk ((by rw [hg]; exact (below_size (by repeat (first | (with_reducible first | exact HB.out | apply below_alloc | apply pw_below_drewN | apply below_drew1 | refine below_set ?_ GE138.out) | exact HB.out))) : w.heap.size ≤ gb139)); have n4_ := Aside0.mk ((by rw [hg]; exact (below_size (by repeat (first | (with_reducible first | exact HB.out | apply below_alloc | apply pw_below_drewN | apply below_drew1 | refine below_set ?_ GE138.out) | exact HB.out))) : w.heap.size ≤ gb139)); have n5_ := Aside0.mk ((by rw [hg]; exact Nat.ne_of_lt (blk_lt (g := gb138) (o := .cells #[.int .i64 a0_0, .bool a0_1, .int .i64 a0_2, .int .i64 a0_3, .slice A0_4 l0_4.length c0_4, .bool a0_5] 26 (0, 0)) (by (with_reducible repeat (first | refine blk_drewN ?_ _ | refine blk_drew ?_ | refine blk_alloc ?_ _)); exact BK138.out)) : gb138 ≠ gb139)); have n6_ := Aside0.mk ((by rw [hg]; exact Nat.ne_of_gt (blk_lt (g := gb138) (o := .cells #[.int .i64 a0_0, .bool a0_1, .int .i64 a0_2, .int .i64 a0_3, .slice A0_4 l0_4.length c0_4, .bool a0_5] 26 (0, 0)) (by (with_reducible repeat (first | refine blk_drewN ?_ _ | refine blk_drew ?_ | refine blk_alloc ?_ _)); exact BK138.out)) : gb139 ≠ gb138)); clear BK138; clear HB; have BK138 := n0_; have HB := n1_; have BK139 := n2_; have GW139 := n3_; have GE139 := n4_; have NB138_139 := n5_; have NB139_138 := n6_; clear n0_ n1_ n2_ n3_ n4_ n5_ n6_; clear hb hbox hg; have hnb20 := NB138_139.out; have hnc20 := NB139_138.out; have hcz21_0 : w19.cell? ⟨gb138, 0, none⟩ = some (.int .i64 a0_0) := (blk_cell BK138.out 0).trans rfl; have hcz21_1 : w19.cell? ⟨gb138, 1, none⟩ = some (.bool a0_1) := (blk_cell BK138.out 1).trans rfl; have hcz21_2 : w19.cell? ⟨gb138, 2, none⟩ = some (.int .i64 a0_2) := (blk_cell BK138.out 2).trans rfl; have hcz21_3 : w19.cell? ⟨gb138, 3, none⟩ = some (.int .i64 a0_3) := (blk_cell BK138.out 3).trans rfl; have hcz21_4 : w19.cell? ⟨gb138, 4, none⟩ = some (.slice A0_4 l0_4.length c0_4) := (blk_cell BK138.out 4).trans rfl; have hcz21_5 : w19.cell? ⟨gb138, 5, none⟩ = some (.bool a0_5) := (blk_cell BK138.out 5).trans rfl; have hfz21_0 := blk_frozen BK138.out 0; have hfz21_1 := blk_frozen BK138.out 1; have hfz21_2 := blk_frozen BK138.out 2; have hfz21_3 := blk_frozen BK138.out 3; have hfz21_4 := blk_frozen BK138.out 4; have hfz21_5 := blk_frozen BK138.out 5; have hcz22_0 : w19.cell? ⟨gb139, 0, none⟩ = some (.int .i64 a1_0) := (blk_cell BK139.out 0).trans rfl; have hcz22_1 : w19.cell? ⟨gb139, 1, none⟩ = some (.bool a1_1) := (blk_cell BK139.out 1).trans rfl; have hcz22_2 : w19.cell? ⟨gb139, 2, none⟩ = some (.int .i64 a1_2) := (blk_cell BK139.out 2).trans rfl; have hcz22_3 : w19.cell? ⟨gb139, 3, none⟩ = some (.int .i64 a1_3) := (blk_cell BK139.out 3).trans rfl; have hcz22_4 : w19.cell? ⟨gb139, 4, none⟩ = some (.slice A1_4 l1_4.length c1_4) := (blk_cell BK139.out 4).trans rfl; have hcz22_5 : w19.cell? ⟨gb139, 5, none⟩ = some (.bool a1_5) := (blk_cell BK139.out 5).trans rfl; have hfz22_0 := blk_frozen BK139.out 0; have hfz22_1 := blk_frozen BK139.out 1; have hfz22_2 := blk_frozen BK139.out 2; have hfz22_3 := blk_frozen BK139.out 3; have hfz22_4 := blk_frozen BK139.out 4; have hfz22_5 := blk_frozen BK139.out 5))
        go_ret
        exact ⟨by first | rfl | (simp [errW_none, errW_some] <;> rfl) | (simp [*, errW_none, errW_some] <;> rfl), by repeat (first | (with_reducible first | exact HB.out | apply below_alloc | apply pw_below_drewN | apply below_drew1 | refine below_set ?_ GE138.out | refine below_set ?_ GE139.out) | exact HB.out)⟩
    · rw [if_neg c4] at H
      have c4b0 : (a0_1 == a1_1) = false := by simpa using c4
      (try (have c4b1 : decide (a0_1 = a1_1) = false := by simpa using c4))
      (try (have c4b2 : (a0_1 == a1_1) = false := by simpa using c4))
      (try (have c4b3 : ¬ (a0_1 = a1_1) := by simpa using c4))
      clear c4
      obtain rfl := Option.some.inj H
      go_enter Tryz.func12, Tryz.ntmps12
      go_wp2_with (first | ((with_reducible refine gate_dst (N := 2) rfl ?_); refine box_event ?hg (N := 2) ?hd (cs := #[.int .i64 a0_0, .bool a0_1, .int .i64 a0_2, .int .i64 a0_3, .slice A0_4 l0_4.length c0_4, .bool a0_5]) (t := 26) ?hr ?_; (case hd => rfl); (case hg => rfl); (case hr => first | (go_simp; done) | (go_simp; rfl)); intro gb138 hg w23 hbox hb; have n0_ := Aside0.mk (below_step (by repeat (first | (with_reducible first | exact HB.out | apply below_alloc | apply pw_below_drewN | apply below_drew1) | exact HB.out)) hb); have n1_ := Aside0.mk (hbox); have n2_ := Aside0.mk ((by rw [hg]; exact (below_size (by repeat (first | (with_reducible first | exact HB.out | apply below_alloc | apply pw_below_drewN | apply below_drew1) | exact HB.out))) : w.heap.size ≤ gb138)); have n3_ := Aside0.mk ((by rw [hg]; exact (below_size (by repeat (first | (with_reducible first | exact HB.out | apply below_alloc | apply pw_below_drewN | apply below_drew1) | exact HB.out))) : w.heap.size ≤ gb138)); clear HB; have HB := n0_; have BK138 := n1_; have GW138 := n2_; have GE138 := n3_; clear n0_ n1_ n2_ n3_; clear hb hbox hg) | ((with_reducible refine gate_dst (N := 3) rfl ?_); refine box_event ?hg (N := 3) ?hd (cs := #[.int .i64 a1_0, .bool a1_1, .int .i64 a1_2, .int .i64 a1_3, .slice A1_4 l1_4.length c1_4, .bool a1_5]) (t := 26) ?hr ?_; (case hd => rfl); (case hg => rfl); (case hr => first | (go_simp; done) | (go_simp; rfl)); intro gb139 hg w24 hbox hb; have n0_ := Aside0.mk (blk_below (g := gb138) (o := .cells #[.int .i64 a0_0, .bool a0_1, .int .i64 a0_2, .int .i64 a0_3, .slice A0_4 l0_4.length c0_4, .bool a0_5] 26 (0, 0)) (by (with_reducible repeat (first | refine blk_drewN ?_ _ | refine blk_drew ?_ | refine blk_alloc ?_ _)); exact BK138.out) hb); have n1_ := Aside0.mk (below_step (by repeat (first | (with_reducible first | exact HB.out | apply below_alloc | apply pw_below_drewN | apply below_drew1 | refine below_set ?_ GE138.out) | exact HB.out)) hb); have n2_ := Aside0.mk (hbox); have n3_ := Aside0.mk ((by rw [hg]; exact (below_size (by repeat (first | (with_reducible first | exact HB.out | apply below_alloc | apply pw_below_drewN | apply below_drew1 | refine below_set ?_ GE138.out) | exact HB.out))) : w.heap.size ≤ gb139)); have n4_ := Aside0.mk ((by rw [hg]; exact (below_size (by repeat (first | (with_reducible first | exact HB.out | apply below_alloc | apply pw_below_drewN | apply below_drew1 | refine below_set ?_ GE138.out) | exact HB.out))) : w.heap.size ≤ gb139)); have n5_ := Aside0.mk ((by rw [hg]; exact Nat.ne_of_lt (blk_lt (g := gb138) (o := .cells #[.int .i64 a0_0, .bool a0_1, .int .i64 a0_2, .int .i64 a0_3, .slice A0_4 l0_4.length c0_4, .bool a0_5] 26 (0, 0)) (by (with_reducible repeat (first | refine blk_drewN ?_ _ | refine blk_drew ?_ | refine blk_alloc ?_ _)); exact BK138.out)) : gb138 ≠ gb139)); have n6_ := Aside0.mk ((by rw [hg]; exact Nat.ne_of_gt (blk_lt (g := gb138) (o := .cells #[.int .i64 a0_0, .bool a0_1, .int .i64 a0_2, .int .i64 a0_3, .slice A0_4 l0_4.length c0_4, .bool a0_5] 26 (0, 0)) (by (with_reducible repeat (first | refine blk_drewN ?_ _ | refine blk_drew ?_ | refine blk_alloc ?_ _)); exact BK138.out)) : gb139 ≠ gb138)); clear BK138; clear HB; have BK138 := n0_; have HB := n1_; have BK139 := n2_; have GW139 := n3_; have GE139 := n4_; have NB138_139 := n5_; have NB139_138 := n6_; clear n0_ n1_ n2_ n3_ n4_ n5_ n6_; clear hb hbox hg; have hnb25 := NB138_139.out; have hnc25 := NB139_138.out; have hcz26_0 : w24.cell? ⟨gb138, 0, none⟩ = some (.int .i64 a0_0) := (blk_cell BK138.out 0).trans rfl; have hcz26_1 : w24.cell? ⟨gb138, 1, none⟩ = some (.bool a0_1) := (blk_cell BK138.out 1).trans rfl; have hcz26_2 : w24.cell? ⟨gb138, 2, none⟩ = some (.int .i64 a0_2) := (blk_cell BK138.out 2).trans rfl; have hcz26_3 : w24.cell? ⟨gb138, 3, none⟩ = some (.int .i64 a0_3) := (blk_cell BK138.out 3).trans rfl; have hcz26_4 : w24.cell? ⟨gb138, 4, none⟩ = some (.slice A0_4 l0_4.length c0_4) := (blk_cell BK138.out 4).trans rfl; have hcz26_5 : w24.cell? ⟨gb138, 5, none⟩ = some (.bool a0_5) := (blk_cell BK138.out 5).trans rfl; have hfz26_0 := blk_frozen BK138.out 0; have hfz26_1 := blk_frozen BK138.out 1; have hfz26_2 := blk_frozen BK138.out 2; have hfz26_3 := blk_frozen BK138.out 3; have hfz26_4 := blk_frozen BK138.out 4; have hfz26_5 := blk_frozen BK138.out 5; have hcz27_0 : w24.cell? ⟨gb139, 0, none⟩ = some (.int .i64 a1_0) := (blk_cell BK139.out 0).trans rfl; have hcz27_1 : w24.cell? ⟨gb139, 1, none⟩ = some (.bool a1_1) := (blk_cell BK139.out 1).trans rfl; have hcz27_2 : w24.cell? ⟨gb139, 2, none⟩ = some (.int .i64 a1_2) := (blk_cell BK139.out 2).trans rfl; have hcz27_3 : w24.cell? ⟨gb139, 3, none⟩ = some (.int .i64 a1_3) := (blk_cell BK139.out 3).trans rfl; have hcz27_4 : w24.cell? ⟨gb139, 4, none⟩ = some (.slice A1_4 l1_4.length c1_4) := (blk_cell BK139.out 4).trans rfl; have hcz27_5 : w24.cell? ⟨gb139, 5, none⟩ = some (.bool a1_5) := (blk_cell BK139.out 5).trans rfl; have hfz27_0 := blk_frozen BK139.out 0; have hfz27_1 := blk_frozen BK139.out 1; have hfz27_2 := blk_frozen BK139.out 2; have hfz27_3 := blk_frozen BK139.out 3; have hfz27_4 := blk_frozen BK139.out 4; have hfz27_5 := blk_frozen BK139.out 5))
      go_ret
      exact ⟨by first | rfl | (simp [errW_none, errW_some] <;> rfl) | (simp [*, errW_none, errW_some] <;> rfl), by repeat (first | (with_reducible first | exact HB.out | apply below_alloc | apply pw_below_drewN | apply below_drew1 | refine below_set ?_ GE138.out | refine below_set ?_ GE139.out) | exact HB.out)⟩
  · rw [if_neg c3] at H
    have c3b0 : (a0_0 == a1_0) = false := beq_eq_false_iff_ne.mpr c3
    have c3b1 : (a0_0 != a1_0) = true := bne_iff_ne.mpr c3
    obtain rfl := Option.some.inj H
    go_enter Tryz.func12, Tryz.ntmps12
    go_wp2_with (first | ((with_reducible refine gate_dst (N := 2) rfl ?_); refine box_event ?hg (N := 2) ?hd (cs := #[.int .i64 a0_0, .bool a0_1, .int .i64 a0_2, .int .i64 a0_3, .slice A0_4 l0_4.length c0_4, .bool a0_5]) (t := 26) ?hr ?_; (case hd => rfl); (case hg => rfl); (case hr => first | (go_simp; done) | (go_simp; rfl)); intro gb138 hg w28 hbox hb; have n0_ := Aside0.mk (below_step (by repeat (first | (with_reducible first | exact HB.out | apply below_alloc | apply pw_below_drewN | apply below_drew1) | exact HB.out)) hb); have n1_ := Aside0.mk (hbox); have n2_ := Aside0.mk ((by rw [hg]; exact (below_size (by repeat (first | (with_reducible first | exact HB.out | apply below_alloc | apply pw_below_drewN | apply below_drew1) | exact HB.out))) : w.heap.size ≤ gb138)); have n3_ := Aside0.mk ((by rw [hg]; exact (below_size (by repeat (first | (with_reducible first | exact HB.out | apply below_alloc | apply pw_below_drewN | apply below_drew1) | exact HB.out))) : w.heap.size ≤ gb138)); clear HB; have HB := n0_; have BK138 := n1_; have GW138 := n2_; have GE138 := n3_; clear n0_ n1_ n2_ n3_; clear hb hbox hg) | ((with_reducible refine gate_dst (N := 3) rfl ?_); refine box_event ?hg (N := 3) ?hd (cs := #[.int .i64 a1_0, .bool a1_1, .int .i64 a1_2, .int .i64 a1_3, .slice A1_4 l1_4.length c1_4, .bool a1_5]) (t := 26) ?hr ?_; (case hd => rfl); (case hg => rfl); (case hr => first | (go_simp; done) | (go_simp; rfl)); intro gb139 hg w29 hbox hb; have n0_ := Aside0.mk (blk_below (g := gb138) (o := .cells #[.int .i64 a0_0, .bool a0_1, .int .i64 a0_2, .int .i64 a0_3, .slice A0_4 l0_4.length c0_4, .bool a0_5] 26 (0, 0)) (by (with_reducible repeat (first | refine blk_drewN ?_ _ | refine blk_drew ?_ | refine blk_alloc ?_ _)); exact BK138.out) hb); have n1_ := Aside0.mk (below_step (by repeat (first | (with_reducible first | exact HB.out | apply below_alloc | apply pw_below_drewN | apply below_drew1 | refine below_set ?_ GE138.out) | exact HB.out)) hb); have n2_ := Aside0.mk (hbox); have n3_ := Aside0.mk ((by rw [hg]; exact (below_size (by repeat (first | (with_reducible first | exact HB.out | apply below_alloc | apply pw_below_drewN | apply below_drew1 | refine below_set ?_ GE138.out) | exact HB.out))) : w.heap.size ≤ gb139)); have n4_ := Aside0.mk ((by rw [hg]; exact (below_size (by repeat (first | (with_reducible first | exact HB.out | apply below_alloc | apply pw_below_drewN | apply below_drew1 | refine below_set ?_ GE138.out) | exact HB.out))) : w.heap.size ≤ gb139)); have n5_ := Aside0.mk ((by rw [hg]; exact Nat.ne_of_lt (blk_lt (g := gb138) (o := .cells #[.int .i64 a0_0, .bool a0_1, .int .i64 a0_2, .int .i64 a0_3, .slice A0_4 l0_4.length c0_4, .bool a0_5] 26 (0, 0)) (by (with_reducible repeat (first | refine blk_drewN ?_ _ | refine blk_drew ?_ | refine blk_alloc ?_ _)); exact BK138.out)) : gb138 ≠ gb139)); have n6_ := Aside0.mk ((by rw [hg]; exact Nat.ne_of_gt (blk_lt (g := gb138) (o := .cells #[.int .i64 a0_0, .bool a0_1, .int .i64 a0_2, .int .i64 a0_3, .slice A0_4 l0_4.length c0_4, .bool a0_5] 26 (0, 0)) (by (with_reducible repeat (first | refine blk_drewN ?_ _ | refine blk_drew ?_ | refine blk_alloc ?_ _)); exact BK138.out)) : gb139 ≠ gb138)); clear BK138; clear HB; have BK138 := n0_; have HB := n1_; have BK139 := n2_; have GW139 := n3_; have GE139 := n4_; have NB138_139 := n5_; have NB139_138 := n6_; clear n0_ n1_ n2_ n3_ n4_ n5_ n6_; clear hb hbox hg; have hnb30 := NB138_139.out; have hnc30 := NB139_138.out; have hcz31_0 : w29.cell? ⟨gb138, 0, none⟩ = some (.int .i64 a0_0) := (blk_cell BK138.out 0).trans rfl; have hcz31_1 : w29.cell? ⟨gb138, 1, none⟩ = some (.bool a0_1) := (blk_cell BK138.out 1).trans rfl; have hcz31_2 : w29.cell? ⟨gb138, 2, none⟩ = some (.int .i64 a0_2) := (blk_cell BK138.out 2).trans rfl; have hcz31_3 : w29.cell? ⟨gb138, 3, none⟩ = some (.int .i64 a0_3) := (blk_cell BK138.out 3).trans rfl; have hcz31_4 : w29.cell? ⟨gb138, 4, none⟩ = some (.slice A0_4 l0_4.length c0_4) := (blk_cell BK138.out 4).trans rfl; have hcz31_5 : w29.cell? ⟨gb138, 5, none⟩ = some (.bool a0_5) := (blk_cell BK138.out 5).trans rfl; have hfz31_0 := blk_frozen BK138.out 0; have hfz31_1 := blk_frozen BK138.out 1; have hfz31_2 := blk_frozen BK138.out 2; have hfz31_3 := blk_frozen BK138.out 3; have hfz31_4 := blk_frozen BK138.out 4; have hfz31_5 := blk_frozen BK138.out 5; have hcz32_0 : w29.cell? ⟨gb139, 0, none⟩ = some (.int .i64 a1_0) := (blk_cell BK139.out 0).trans rfl; have hcz32_1 : w29.cell? ⟨gb139, 1, none⟩ = some (.bool a1_1) := (blk_cell BK139.out 1).trans rfl; have hcz32_2 : w29.cell? ⟨gb139, 2, none⟩ = some (.int .i64 a1_2) := (blk_cell BK139.out 2).trans rfl; have hcz32_3 : w29.cell? ⟨gb139, 3, none⟩ = some (.int .i64 a1_3) := (blk_cell BK139.out 3).trans rfl; have hcz32_4 : w29.cell? ⟨gb139, 4, none⟩ = some (.slice A1_4 l1_4.length c1_4) := (blk_cell BK139.out 4).trans rfl; have hcz32_5 : w29.cell? ⟨gb139, 5, none⟩ = some (.bool a1_5) := (blk_cell BK139.out 5).trans rfl; have hfz32_0 := blk_frozen BK139.out 0; have hfz32_1 := blk_frozen BK139.out 1; have hfz32_2 := blk_frozen BK139.out 2; have hfz32_3 := blk_frozen BK139.out 3; have hfz32_4 := blk_frozen BK139.out 4; have hfz32_5 := blk_frozen BK139.out 5))
    go_ret
    exact ⟨by first | rfl | (simp [errW_none, errW_some] <;> rfl) | (simp [*, errW_none, errW_some] <;> rfl), by repeat (first | (with_reducible first | exact HB.out | apply below_alloc | apply pw_below_drewN | apply below_drew1 | refine below_set ?_ GE138.out | refine below_set ?_ GE139.out) | exact HB.out)⟩
def boscagelaw11_Wide.f (a0 : Int) : Option (Int) := some (wrap64 (3 + (Int.tmod (wrap64 (a0)) 6)))
set_option maxHeartbeats 8000000 in
set_option maxRecDepth 100000 in
theorem boscagelaw11_Wide.calls (a0 : Int) (r : Int) (w : World) (h : boscagelaw11_Wide.f a0 = some r) :
    Calls Tryz.prog 34 #[.int .u8 a0] w fun e w' => e = .returned (.int .i64 r) ∧ Drawn0 w w' := by
  have H : (some (wrap64 (3 + (Int.tmod (wrap64 (a0)) 6)))) = some r := h
  clear h
  obtain rfl := Option.some.inj H
  go_enter Tryz.func34, Tryz.ntmps34
  go_wp2
  go_ret
  exact ⟨by first | rfl | (simp; done) | (simp [*]; done), by repeat (first | exact Drawn0.refl _ | apply Drawn0.step)⟩
mutual
def boscagelaw11_Parts.l0 : Nat → Int → Int → Int → Option (List Int)
  | 0, _, _, _ => none
  | k + 1, x0, x1, x5 => if (wrap64 (x5 * x1)) < x0 then (boscagelaw11_Parts.l0 k x0 x1 (wrap64 (x5 + 1))) else (boscagelaw11_Parts.l1 k x0 x5 ([] : List Int) x5 0)
def boscagelaw11_Parts.l1 : Nat → Int → Int → List Int → Int → Int → Option (List Int)
  | 0, _, _, _, _, _ => none
  | k + 1, x0, x5, x6, x17, x18 => if x18 < x17 then (boscagelaw11_Parts.l2 k x0 x5 x6 0 x18 x17 x18) else (some x6)
def boscagelaw11_Parts.l2 : Nat → Int → Int → List Int → Int → Int → Int → Int → Option (List Int)
  | 0, _, _, _, _, _, _, _ => none
  | k + 1, x0, x5, x6, x8, x9, x17, x18 => if x9 < x0 then (boscagelaw11_Parts.l2 k x0 x5 x6 (wrap64 (x8 + 1)) (wrap64 (x9 + x5)) x17 x18) else (if x6.length < 17592186044416 then (boscagelaw11_Parts.l1 k x0 x5 (x6 ++ [x8]) x17 (wrap64 (x18 + 1))) else (none))
end
def boscagelaw11_Parts.f (k : Nat) (a0 : Int) (a1 : Int) : Option (List Int) := boscagelaw11_Parts.l0 k a0 a1 0
theorem boscagelaw11_Parts.mono_l : ∀ k, (∀ y0 y1 y2, LeO (boscagelaw11_Parts.l0 k y0 y1 y2) (boscagelaw11_Parts.l0 (k + 1) y0 y1 y2)) ∧ (∀ y0 y1 y2 y3 y4, LeO (boscagelaw11_Parts.l1 k y0 y1 y2 y3 y4) (boscagelaw11_Parts.l1 (k + 1) y0 y1 y2 y3 y4)) ∧ (∀ y0 y1 y2 y3 y4 y5 y6, LeO (boscagelaw11_Parts.l2 k y0 y1 y2 y3 y4 y5 y6) (boscagelaw11_Parts.l2 (k + 1) y0 y1 y2 y3 y4 y5 y6))
  | 0 => ⟨fun _ _ _ r h => by simp [boscagelaw11_Parts.l0] at h, fun _ _ _ _ _ r h => by simp [boscagelaw11_Parts.l1] at h, fun _ _ _ _ _ _ _ r h => by simp [boscagelaw11_Parts.l2] at h⟩
  | k + 1 => by
    obtain ⟨ih0, ih1, ih2⟩ := boscagelaw11_Parts.mono_l k
    refine ⟨?_, ?_, ?_⟩
    · intro y0 y1 y2
      unfold boscagelaw11_Parts.l0
      repeat' first
      | (with_reducible exact ih0 _ _ _)
      | (with_reducible exact ih1 _ _ _ _ _)
      | (with_reducible exact ih2 _ _ _ _ _ _ _)
      | (with_reducible exact LeO.refl _)
      | (with_reducible exact LeO.none _)
      | (with_reducible refine LeO.ite ?_ ?_)
      | (with_reducible refine LeO.bind ?_ (fun _ => ?_))
      | exact ih0 _ _ _
      | exact ih1 _ _ _ _ _
      | exact ih2 _ _ _ _ _ _ _
      | exact LeO.none _
      | refine LeO.ite ?_ ?_
      | refine LeO.bind ?_ (fun _ => ?_)
    · intro y0 y1 y2 y3 y4
      unfold boscagelaw11_Parts.l1
      repeat' first
      | (with_reducible exact ih0 _ _ _)
      | (with_reducible exact ih1 _ _ _ _ _)
      | (with_reducible exact ih2 _ _ _ _ _ _ _)
      | (with_reducible exact LeO.refl _)
      | (with_reducible exact LeO.none _)
      | (with_reducible refine LeO.ite ?_ ?_)
      | (with_reducible refine LeO.bind ?_ (fun _ => ?_))
      | exact ih0 _ _ _
      | exact ih1 _ _ _ _ _
      | exact ih2 _ _ _ _ _ _ _
      | exact LeO.none _
      | refine LeO.ite ?_ ?_
      | refine LeO.bind ?_ (fun _ => ?_)
    · intro y0 y1 y2 y3 y4 y5 y6
      unfold boscagelaw11_Parts.l2
      repeat' first
      | (with_reducible exact ih0 _ _ _)
      | (with_reducible exact ih1 _ _ _ _ _)
      | (with_reducible exact ih2 _ _ _ _ _ _ _)
      | (with_reducible exact LeO.refl _)
      | (with_reducible exact LeO.none _)
      | (with_reducible refine LeO.ite ?_ ?_)
      | (with_reducible refine LeO.bind ?_ (fun _ => ?_))
      | exact ih0 _ _ _
      | exact ih1 _ _ _ _ _
      | exact ih2 _ _ _ _ _ _ _
      | exact LeO.none _
      | refine LeO.ite ?_ ?_
      | refine LeO.bind ?_ (fun _ => ?_)
theorem boscagelaw11_Parts.mono : ∀ a0 a1 k, LeO (boscagelaw11_Parts.f k a0 a1) (boscagelaw11_Parts.f (k + 1) a0 a1) := by
  intro a0 a1 k
  obtain ⟨ih0, ih1, ih2⟩ := boscagelaw11_Parts.mono_l k
  unfold boscagelaw11_Parts.f
  repeat' first
      | (with_reducible exact ih0 _ _ _)
      | (with_reducible exact ih1 _ _ _ _ _)
      | (with_reducible exact ih2 _ _ _ _ _ _ _)
      | (with_reducible exact LeO.refl _)
      | (with_reducible exact LeO.none _)
      | (with_reducible refine LeO.ite ?_ ?_)
      | (with_reducible refine LeO.bind ?_ (fun _ => ?_))
      | exact ih0 _ _ _
      | exact ih1 _ _ _ _ _
      | exact ih2 _ _ _ _ _ _ _
      | exact LeO.none _
      | refine LeO.ite ?_ ?_
      | refine LeO.bind ?_ (fun _ => ?_)
set_option maxHeartbeats 8000000 in
set_option maxRecDepth 100000 in
theorem boscagelaw11_Parts.calls (k : Nat) (a0 : Int) (a1 : Int) (r : List Int) (w : World) (h : boscagelaw11_Parts.f k a0 a1 = some r) :
    Calls Tryz.prog 59 #[.int .i64 a0, .int .i64 a1] w fun e w' => ∃ v0_ : Value, e = .returned (v0_) ∧ Kd.R (Kd.int .i64) 3 w' w.heap.size (fun _ => True) v0_ r ∧ Below w.heap.size w w' := by
  have HB := Aside0.mk (Below.refl w.heap.size w)
  have H : (boscagelaw11_Parts.l0 k a0 a1 0) = some r := h
  clear h
  have H' := Aside0.mk H
  clear H
  go_enter Tryz.func59, Tryz.ntmps59
  go_wp2
  go_loopg [5] k (fun kq v5 w' => ∃ (x5_1 : Int), v5 = .int .i64 x5_1 ∧ Aside0 (boscagelaw11_Parts.l0 kq a0 a1 x5_1 = some r) ∧ Aside0 (kq ≤ k) ∧ Aside0 (Below w.heap.size w w'))
  case atStart => exact ⟨(0), (by first | rfl | (simp; done) | (simp [*]; done)), H', ⟨Nat.le_refl _⟩, ⟨by repeat (first | (with_reducible first | exact HB.out | apply below_alloc | apply pw_below_drewN | apply below_drew1) | exact HB.out)⟩⟩
  case round =>
    clear H'
    try clear p2
    obtain ⟨x5_1, rfl, HA, HK1, HB⟩ := hrel
    cases gk with
    | zero => exact absurd HA.out (by simp [boscagelaw11_Parts.l0])
    | succ k1 =>
      have H := HA.out
      clear HA
      simp only [boscagelaw11_Parts.l0] at H
      by_cases c3 : (wrap64 (x5_1 * a1)) < a0
      · rw [if_pos c3] at H
        have c3b0 : decide ((wrap64 (x5_1 * a1)) < a0) = true := decide_eq_true c3
        clear c3
        have H' := Aside0.mk H
        clear H
        go_wp2
        go_roundg k1
        case measure => have := HK1.out; omega
        case rel => exact ⟨(wrap64 (x5_1 + 1)), (by first | rfl | (simp; done) | (simp [*]; done)), H', ⟨by have := HK1.out; omega⟩, ⟨by repeat (first | (with_reducible first | exact HB.out | apply below_alloc | apply pw_below_drewN | apply below_drew1) | exact HB.out)⟩⟩
      · rw [if_neg c3] at H
        have c3b0 : decide ((wrap64 (x5_1 * a1)) < a0) = false := decide_eq_false c3
        clear c3
        have H' := Aside0.mk H
        clear H
        go_wp2
        go_loopg [6, 18] k1 (fun kq v6 v18 w' => ∃ (x6_2 : List Int) (x18_2 : Int), v18 = .int .i64 x18_2 ∧ Aside0 (boscagelaw11_Parts.l1 kq a0 x5_1 x6_2 x5_1 x18_2 = some r) ∧ Aside0 (kq ≤ k1) ∧ Aside0 (Kd.R (Kd.int .i64) 3 w' w.heap.size (fun _ => True) v6 x6_2) ∧ Aside0 (Below w.heap.size w w'))
        case atStart => exact ⟨(([] : List Int)), (0), (by first | rfl | (simp; done) | (simp [*]; done)), H', ⟨Nat.le_refl _⟩, ⟨by first | exact Kd.R_nil _ _ _ _ _ | exact Kd.N_nil _ _ _ _ _ | exact Kd.V_nil _ _ _ _ _ | exact Kd.Q_nil _ _ _ _ _ | exact Kd.S_nil _ _ _ _ _⟩, ⟨by repeat (first | (with_reducible first | exact HB.out | apply below_alloc | apply pw_below_drewN | apply below_drew1) | exact HB.out)⟩⟩
        case round =>
          clear H'
          try clear p2
          try clear c3
          try clear c3b0
          try clear p2
          obtain ⟨x6_2, x18_2, rfl, HA, HK2, HO_6, HB⟩ := hrel
          cases gk with
          | zero => exact absurd HA.out (by simp [boscagelaw11_Parts.l1])
          | succ k2 =>
            have H := HA.out
            clear HA
            simp only [boscagelaw11_Parts.l1] at H
            by_cases c4 : x18_2 < x5_1
            · rw [if_pos c4] at H
              have c4b0 : decide (x18_2 < x5_1) = true := decide_eq_true c4
              clear c4
              have H' := Aside0.mk H
              clear H
              go_wp2
              go_loopg [8, 9] k2 (fun kq v8 v9 w' => ∃ (x8_3 : Int) (x9_3 : Int), v8 = .int .i64 x8_3 ∧ v9 = .int .i64 x9_3 ∧ Aside0 (boscagelaw11_Parts.l2 kq a0 x5_1 x6_2 x8_3 x9_3 x5_1 x18_2 = some r) ∧ Aside0 (kq ≤ k2) ∧ Aside0 (Kd.R (Kd.int .i64) 3 w' w.heap.size (fun _ => True) u6 x6_2) ∧ Aside0 (Below w.heap.size w w'))
              case atStart => exact ⟨(0), (x18_2), (by first | rfl | (simp; done) | (simp [*]; done)), (by first | rfl | (simp; done) | (simp [*]; done)), H', ⟨Nat.le_refl _⟩, ⟨by (with_reducible repeat (first | apply Kd.R_alloc | apply Kd.R_drewN | apply Kd.R_drew)); exact HO_6.out⟩, ⟨by repeat (first | (with_reducible first | exact HB.out | apply below_alloc | apply pw_below_drewN | apply below_drew1) | exact HB.out)⟩⟩
              case round =>
                clear H'
                try clear p2
                try clear c3
                try clear c3b0
                try clear c4
                try clear c4b0
                try clear p2
                obtain ⟨x8_3, x9_3, rfl, rfl, HA, HK3, HO_6, HB⟩ := hrel
                cases gk with
                | zero => exact absurd HA.out (by simp [boscagelaw11_Parts.l2])
                | succ k3 =>
                  have H := HA.out
                  clear HA
                  simp only [boscagelaw11_Parts.l2] at H
                  by_cases c5 : x9_3 < a0
                  · rw [if_pos c5] at H
                    have c5b0 : decide (x9_3 < a0) = true := decide_eq_true c5
                    clear c5
                    have H' := Aside0.mk H
                    clear H
                    go_wp2
                    go_roundg k3
                    case measure => have := HK1.out; have := HK2.out; have := HK3.out; omega
                    case rel => exact ⟨(wrap64 (x8_3 + 1)), (wrap64 (x9_3 + x5_1)), (by first | rfl | (simp; done) | (simp [*]; done)), (by first | rfl | (simp; done) | (simp [*]; done)), H', ⟨by have := HK1.out; have := HK2.out; have := HK3.out; omega⟩, ⟨by (with_reducible repeat (first | apply Kd.R_alloc | apply Kd.R_drewN | apply Kd.R_drew)); exact HO_6.out⟩, ⟨by repeat (first | (with_reducible first | exact HB.out | apply below_alloc | apply pw_below_drewN | apply below_drew1) | exact HB.out)⟩⟩
                  · rw [if_neg c5] at H
                    have c5b0 : decide (x9_3 < a0) = false := decide_eq_false c5
                    clear c5
                    by_cases c6 : x6_2.length < 17592186044416
                    · rw [if_pos c6] at H
                      have LMc6 := Aside0.mk c6
                      clear c6
                      obtain ⟨y141, hy141⟩ : ∃ y_ : List Int, y_ = (x6_2 ++ [x8_3]) := ⟨_, rfl⟩
                      replace H : (boscagelaw11_Parts.l1 k3 a0 x5_1 y141 x5_1 (wrap64 (x18_2 + 1))) = some r := by first | (rw [hy141]; with_reducible exact H) | (have H2_ := (Option.bind_some _ _).symm.trans H; rw [hy141]; with_reducible exact H2_) | (have H2_ := (Option.bind_some _ _).symm.trans H; with_reducible exact H2_) | with_reducible exact H | (rw [hy141]; exact H) | exact H
                      have Ny141 := Aside0.mk hy141
                      clear hy141
                      have H' := Aside0.mk H
                      clear H
                      go_wp2_with (first | ((with_reducible refine gate_builtin (b := .append) (xs := #[.tmp 30, .tmp 32]) rfl ?_); at_builtin; refine Kd.R_append (Kd.int .i64) (w0 := w) w.heap.size rfl (.tmp 30) (.tmp 32) 106 3 (.int .i64 0) 8 rfl Tryz.underlying106 info3 rfl (by decide) (by omega) u6 x6_2 x8_3 [.int .i64 x8_3] (fun _ => True) (fun _ => False) rfl rfl ?aP (fun _ hk => hk.elim) ?aF ?aO ?aB ?aS ?aL ?_; (case aP => exact rfl); (case aB => exact (by repeat (first | (with_reducible first | exact HB.out | apply below_alloc | apply pw_below_drewN | apply below_drew1) | exact HB.out))); (case aF => exact (fun _ _ => trivial)); (case aO => exact (by (with_reducible repeat (first | apply Kd.R_alloc | apply Kd.R_drewN | apply Kd.R_drew)); exact HO_6.out)); (case aS => exact (below_size (by repeat (first | (with_reducible first | exact HB.out | apply below_alloc | apply pw_below_drewN | apply below_drew1) | exact HB.out)))); (case aL => have := LMc6.out; omega); intro v142 w7 ho hb hg hat; rw [← Ny141.out] at ho; have n0_ := Aside0.mk (hb); have n1_ := Aside0.mk (ho); clear HB; clear HO_6; have HB := n0_; have HO143 := n1_; clear n0_ n1_; clear ho hb hg hat))
                      go_roundg k3
                      case measure => have := HK1.out; have := HK2.out; have := HK3.out; omega
                      case rel => exact ⟨(y141), (wrap64 (x18_2 + 1)), (by first | rfl | (simp; done) | (simp [*]; done)), H', ⟨by have := HK1.out; have := HK2.out; have := HK3.out; omega⟩, ⟨by (with_reducible repeat (first | apply Kd.R_alloc | apply Kd.R_drewN | apply Kd.R_drew)); exact HO143.out⟩, ⟨by repeat (first | (with_reducible first | exact HB.out | apply below_alloc | apply pw_below_drewN | apply below_drew1) | exact HB.out)⟩⟩
                    · rw [if_neg c6] at H
                      exact absurd H (by simp)
            · rw [if_neg c4] at H
              have c4b0 : decide (x18_2 < x5_1) = false := decide_eq_false c4
              clear c4
              obtain rfl := Option.some.inj H
              go_wp2
              go_ret
              exact ⟨_, by first | rfl | (simp [errW_none, errW_some] <;> rfl) | (simp [*, errW_none, errW_some] <;> rfl), by (with_reducible repeat (first | apply Kd.R_alloc | apply Kd.R_drewN | apply Kd.R_drew)); exact HO_6.out, by repeat (first | (with_reducible first | exact HB.out | apply below_alloc | apply pw_below_drewN | apply below_drew1) | exact HB.out)⟩
mutual
def boscagelaw02_Put.l0 : Nat → Int → Int → List (S31) → Bool → List (S31) → Int → Int → Option ((List (S31)))
  | 0, _, _, _, _, _, _, _ => none
  | k + 1, x1, x2, x7, x8, x11, x12, x13 => if x13 < x12 then (if 0 ≤ x13 then (if x13 < (x11.length : Int) then (if x8 = true then (boscagelaw02_Put.j1 k x1 x2 x7 x8 x11 x12 x13 false ((rd_T31 x11 x13).f0) ((rd_T31 x11 x13).f1)) else (boscagelaw02_Put.j1 k x1 x2 x7 x8 x11 x12 x13 (decide (((rd_T31 x11 x13).f0) ≥ x1)) ((rd_T31 x11 x13).f0) ((rd_T31 x11 x13).f1))) else (none)) else (none)) else (if x8 = true then (some x7) else (if x7.length < 8796093022208 then (some (x7 ++ [(⟨x1, x2⟩ : S31)])) else (none)))
def boscagelaw02_Put.j1 : Nat → Int → Int → List (S31) → Bool → List (S31) → Int → Int → Bool → Int → Int → Option ((List (S31)))
  | 0, _, _, _, _, _, _, _, _, _, _ => none
  | k + 1, x1, x2, x7, x8, x11, x12, x13, x24, x223000, x223001 => if x24 = true then (if x7.length < 8796093022208 then ((some (x7 ++ [(⟨x1, x2⟩ : S31)] : List (S31))).bind fun y223 => (if x223000 = x1 then (boscagelaw02_Put.l0 k x1 x2 y223 true x11 x12 (wrap64 (x13 + 1))) else (if y223.length < 8796093022208 then (boscagelaw02_Put.l0 k x1 x2 (y223 ++ [(⟨x223000, x223001⟩ : S31)]) true x11 x12 (wrap64 (x13 + 1))) else (none)))) else (none)) else (if x223000 = x1 then (boscagelaw02_Put.l0 k x1 x2 x7 x8 x11 x12 (wrap64 (x13 + 1))) else (if x7.length < 8796093022208 then (boscagelaw02_Put.l0 k x1 x2 (x7 ++ [(⟨x223000, x223001⟩ : S31)]) x8 x11 x12 (wrap64 (x13 + 1))) else (none)))
end
def boscagelaw02_Put.f (k : Nat) (l0 : List (S31)) (a1 : Int) (a2 : Int) : Option ((List (S31))) := boscagelaw02_Put.l0 k a1 a2 ([] : List (S31)) false l0 (l0.length : Int) 0
theorem boscagelaw02_Put.mono_l : ∀ k, (∀ y0 y1 y2 y3 y4 y5 y6, LeO (boscagelaw02_Put.l0 k y0 y1 y2 y3 y4 y5 y6) (boscagelaw02_Put.l0 (k + 1) y0 y1 y2 y3 y4 y5 y6)) ∧ (∀ y0 y1 y2 y3 y4 y5 y6 y7 y8 y9, LeO (boscagelaw02_Put.j1 k y0 y1 y2 y3 y4 y5 y6 y7 y8 y9) (boscagelaw02_Put.j1 (k + 1) y0 y1 y2 y3 y4 y5 y6 y7 y8 y9))
  | 0 => ⟨fun _ _ _ _ _ _ _ r h => by simp [boscagelaw02_Put.l0] at h, fun _ _ _ _ _ _ _ _ _ _ r h => by simp [boscagelaw02_Put.j1] at h⟩
  | k + 1 => by
    obtain ⟨ih0, ih1⟩ := boscagelaw02_Put.mono_l k
    refine ⟨?_, ?_⟩
    · intro y0 y1 y2 y3 y4 y5 y6
      unfold boscagelaw02_Put.l0
      repeat' first
      | (with_reducible exact ih0 _ _ _ _ _ _ _)
      | (with_reducible exact ih1 _ _ _ _ _ _ _ _ _ _)
      | (with_reducible exact LeO.refl _)
      | (with_reducible exact LeO.none _)
      | (with_reducible refine LeO.ite ?_ ?_)
      | (with_reducible refine LeO.bind ?_ (fun _ => ?_))
      | exact ih0 _ _ _ _ _ _ _
      | exact ih1 _ _ _ _ _ _ _ _ _ _
      | exact LeO.none _
      | refine LeO.ite ?_ ?_
      | refine LeO.bind ?_ (fun _ => ?_)
    · intro y0 y1 y2 y3 y4 y5 y6 y7 y8 y9
      unfold boscagelaw02_Put.j1
      repeat' first
      | (with_reducible exact ih0 _ _ _ _ _ _ _)
      | (with_reducible exact ih1 _ _ _ _ _ _ _ _ _ _)
      | (with_reducible exact LeO.refl _)
      | (with_reducible exact LeO.none _)
      | (with_reducible refine LeO.ite ?_ ?_)
      | (with_reducible refine LeO.bind ?_ (fun _ => ?_))
      | exact ih0 _ _ _ _ _ _ _
      | exact ih1 _ _ _ _ _ _ _ _ _ _
      | exact LeO.none _
      | refine LeO.ite ?_ ?_
      | refine LeO.bind ?_ (fun _ => ?_)
theorem boscagelaw02_Put.mono : ∀ a0 a1 a2 k, LeO (boscagelaw02_Put.f k a0 a1 a2) (boscagelaw02_Put.f (k + 1) a0 a1 a2) := by
  intro a0 a1 a2 k
  obtain ⟨ih0, ih1⟩ := boscagelaw02_Put.mono_l k
  unfold boscagelaw02_Put.f
  repeat' first
      | (with_reducible exact ih0 _ _ _ _ _ _ _)
      | (with_reducible exact ih1 _ _ _ _ _ _ _ _ _ _)
      | (with_reducible exact LeO.refl _)
      | (with_reducible exact LeO.none _)
      | (with_reducible refine LeO.ite ?_ ?_)
      | (with_reducible refine LeO.bind ?_ (fun _ => ?_))
      | exact ih0 _ _ _ _ _ _ _
      | exact ih1 _ _ _ _ _ _ _ _ _ _
      | exact LeO.none _
      | refine LeO.ite ?_ ?_
      | refine LeO.bind ?_ (fun _ => ?_)
set_option maxHeartbeats 8000000 in
set_option maxRecDepth 100000 in
theorem boscagelaw02_Put.calls (k : Nat) (A0 : Option Addr) (c0 : Nat) (l0 : List (S31)) (a1 : Int) (a2 : Int) (r : List (S31)) (w : World) (hr0 : Kd.C k31 w A0 l0.length l0) (hc0 : l0.length ≤ c0) (h : boscagelaw02_Put.f k l0 a1 a2 = some r) :
    Calls Tryz.prog 47 #[.slice A0 l0.length c0, .int .i64 a1, .int .i64 a2] w fun e w' => ∃ v0_ : Value, e = .returned (v0_) ∧ Kd.R k31 31 w' w.heap.size (fun _ => True) v0_ r ∧ Below w.heap.size w w' := by
  have hu31 := Tryz.underlying31
  have HR0 := Aside0.mk hr0
  have HC0 := Aside0.mk hc0
  clear hr0 hc0
  have HB := Aside0.mk (Below.refl w.heap.size w)
  have H : (boscagelaw02_Put.l0 k a1 a2 ([] : List (S31)) false l0 (l0.length : Int) 0) = some r := h
  clear h
  have H' := Aside0.mk H
  clear H
  go_enter Tryz.func47, Tryz.ntmps47
  go_wp2
  go_loopg [7, 8, 13] k (fun kq v7 v8 v13 w' => ∃ (x7_1 : List (S31)) (x8_1 : Bool) (x13_1 : Int), v8 = .bool x8_1 ∧ v13 = .int .i64 x13_1 ∧ Aside0 (boscagelaw02_Put.l0 kq a1 a2 x7_1 x8_1 l0 (l0.length : Int) x13_1 = some r) ∧ Aside0 (kq ≤ k) ∧ Aside0 (Kd.R k31 31 w' w.heap.size (fun _ => True) v7 x7_1) ∧ Aside0 (Below w.heap.size w w'))
  case atStart => exact ⟨(([] : List (S31))), (false), (0), (by first | rfl | (simp; done) | (simp [*]; done)), (by first | rfl | (simp; done) | (simp [*]; done)), H', ⟨Nat.le_refl _⟩, ⟨by first | exact Kd.R_nil _ _ _ _ _ | exact Kd.N_nil _ _ _ _ _ | exact Kd.V_nil _ _ _ _ _ | exact Kd.Q_nil _ _ _ _ _ | exact Kd.S_nil _ _ _ _ _⟩, ⟨by repeat (first | (with_reducible first | exact HB.out | apply below_alloc | apply pw_below_drewN | apply below_drew1) | exact HB.out)⟩⟩
  case round =>
    clear H'
    try clear p2
    obtain ⟨x7_1, x8_1, x13_1, rfl, rfl, HA, HK1, HO_7, HB⟩ := hrel
    cases gk with
    | zero => exact absurd HA.out (by simp [boscagelaw02_Put.l0])
    | succ k1 =>
      have H := HA.out
      clear HA
      simp only [boscagelaw02_Put.l0] at H
      by_cases c4 : x13_1 < (l0.length : Int)
      · rw [if_pos c4] at H
        have c4b0 : decide (x13_1 < (l0.length : Int)) = true := decide_eq_true c4
        clear c4
        by_cases c5 : 0 ≤ x13_1
        · rw [if_pos c5] at H
          have c5b0 : decide (0 ≤ x13_1) = true := decide_eq_true c5
          clear c5
          by_cases c6 : x13_1 < (l0.length : Int)
          · rw [if_pos c6] at H
            have c6b0 : decide (x13_1 < (l0.length : Int)) = true := decide_eq_true c6
            clear c6
            have HC7 := Aside0.mk H
            clear H
            have p221 : 0 ≤ (x13_1 : Int) := of_decide_eq_true (by first | (with_reducible assumption) | assumption)
            have q221 : x13_1 < (l0.length : Int) := of_decide_eq_true (by first | (with_reducible assumption) | assumption)
            obtain ⟨ad221, e221, hx221_0, hx221_1⟩ := at_T31 HR0.out x13_1 p221 q221
            cases e221
            replace hx221_0 := (HB.out.cell (World.block_lt_of_cell? w _ hx221_0)).trans hx221_0
            replace hx221_1 := (HB.out.cell (World.block_lt_of_cell? w _ hx221_1)).trans hx221_1
            replace p221 := eq_true p221
            replace q221 := eq_true q221
            go_upto_region 6 with (first | ((with_reducible refine gate_dst (N := 10) rfl ?_); refine box_event ?hg (N := 10) ?hd (cs := #[.int .i64 0, .int .i64 0]) (t := 31) ?hr ?_; (case hd => rfl); (case hg => rfl); (case hr => first | (go_simp; done) | (go_simp; rfl)); intro gb222 hg w8 hbox hb; have n0_ := Aside0.mk (Kd.R_below (Kd.R_elderB (by (with_reducible repeat (first | apply Kd.R_alloc | apply Kd.R_drewN | apply Kd.R_drew)); exact HO_7.out) gb222 (Nat.le_of_eq hg.symm)) hb); have n1_ := Aside0.mk (below_step (by repeat (first | (with_reducible first | exact HB.out | apply below_alloc | apply pw_below_drewN | apply below_drew1) | exact HB.out)) hb); have n2_ := Aside0.mk (hbox); have n3_ := Aside0.mk ((by rw [hg]; exact (below_size (by repeat (first | (with_reducible first | exact HB.out | apply below_alloc | apply pw_below_drewN | apply below_drew1) | exact HB.out))) : w.heap.size ≤ gb222)); have n4_ := Aside0.mk ((by rw [hg]; exact (below_size (by repeat (first | (with_reducible first | exact HB.out | apply below_alloc | apply pw_below_drewN | apply below_drew1) | exact HB.out))) : w.heap.size ≤ gb222)); clear HO_7; clear HB; have HO_7 := n0_; have HB := n1_; have BK222 := n2_; have GW222 := n3_; have GE222 := n4_; clear n0_ n1_ n2_ n3_ n4_; clear hb hbox hg; have hcz9_0 : w8.cell? ⟨gb222, 0, none⟩ = some (.int .i64 0) := (blk_cell BK222.out 0).trans rfl; have hcz9_1 : w8.cell? ⟨gb222, 1, none⟩ = some (.int .i64 0) := (blk_cell BK222.out 1).trans rfl; have hfz9_0 := blk_frozen BK222.out 0; have hfz9_1 := blk_frozen BK222.out 1))
            (try simp only [Act.put, u1_, u2_, u3_])
            go_cut [24] (fun v24 wc => ∃ (kq : Nat) (x24_6 : Bool), v24 = .bool x24_6 ∧ Aside0 (boscagelaw02_Put.j1 kq a1 a2 x7_1 x8_1 l0 (l0.length : Int) x13_1 x24_6 ((rd_T31 l0 x13_1).f0) ((rd_T31 l0 x13_1).f1) = some r) ∧ Aside0 (kq ≤ k1) ∧ Aside0 (Kd.R k31 31 wc w.heap.size (fun k_ => k_ ≠ gb222) u7 x7_1) ∧ Aside0 (wc.heap[gb222]? = some (.cells #[.int .i64 ((rd_T31 l0 x13_1).f0), .int .i64 ((rd_T31 l0 x13_1).f1)] 31 (0, 0))) ∧ Aside0 (Below w.heap.size w wc))
            case first =>
              have H := HC7.out
              clear HC7
              by_cases c10 : x8_1 = true
              · subst c10
                have H1 : (boscagelaw02_Put.j1 k1 a1 a2 x7_1 true l0 (l0.length : Int) x13_1 false ((rd_T31 l0 x13_1).f0) ((rd_T31 l0 x13_1).f1)) = some r := by rw [if_pos rfl] at H; exact H
                clear H
                have H := H1
                clear H1
                have H' := Aside0.mk H
                clear H
                go_wp2
                go_meet
                case rel => exact ⟨_, (false), (by first | rfl | (simp; done) | (simp [*]; done)), H', ⟨by have := HK1.out; first | omega | exact Nat.le_refl _⟩, ⟨by (with_reducible repeat (first | apply Kd.R_alloc | apply Kd.R_drewN | apply Kd.R_drew)); exact Kd.R_mono (Kd.R_far (p := ⟨gb222, 1, none⟩) (Kd.R_far (p := ⟨gb222, 0, none⟩) (Kd.R_mono HO_7.out (fun k_ hk => (⟨hk, hk.2⟩ : _ ∧ k_ ≠ gb222))) (fun _ hk => hk.2) (.int .i64 ((rd_T31 l0 x13_1).f0))) (fun _ hk => hk.2) (.int .i64 ((rd_T31 l0 x13_1).f1))) (fun _ hk => hk.1.2)⟩, ⟨by (with_reducible repeat (first | refine blk_drewN ?_ _ | refine blk_drew ?_ | refine blk_alloc ?_ _)); refine blk_put (cs := #[.int .i64 ((rd_T31 l0 x13_1).f0), .int .i64 0]) ?_ 1 _ rfl; (with_reducible repeat (first | refine blk_drewN ?_ _ | refine blk_drew ?_ | refine blk_alloc ?_ _)); refine blk_put (cs := #[.int .i64 0, .int .i64 0]) ?_ 0 _ rfl; (with_reducible repeat (first | refine blk_drewN ?_ _ | refine blk_drew ?_ | refine blk_alloc ?_ _)); exact BK222.out⟩, ⟨by repeat (first | (with_reducible first | exact HB.out | apply below_alloc | apply pw_below_drewN | apply below_drew1 | refine below_set ?_ GE222.out) | exact HB.out)⟩⟩
              · replace c10 := Bool.eq_false_iff.mpr c10
                subst c10
                have H1 : (boscagelaw02_Put.j1 k1 a1 a2 x7_1 false l0 (l0.length : Int) x13_1 (decide (((rd_T31 l0 x13_1).f0) ≥ a1)) ((rd_T31 l0 x13_1).f0) ((rd_T31 l0 x13_1).f1)) = some r := by rw [if_neg (show ¬ (false = true) by decide)] at H; exact H
                clear H
                have H := H1
                clear H1
                have H' := Aside0.mk H
                clear H
                have hcz11_0 : w8.cell? ⟨gb222, 0, none⟩ = some (.int .i64 0) := (blk_cell BK222.out 0).trans rfl
                have hcz11_1 : w8.cell? ⟨gb222, 1, none⟩ = some (.int .i64 0) := (blk_cell BK222.out 1).trans rfl
                have hfz11_0 := blk_frozen BK222.out 0
                have hfz11_1 := blk_frozen BK222.out 1
                go_wp2
                go_meet
                case rel => exact ⟨_, (decide (((rd_T31 l0 x13_1).f0) ≥ a1)), (by first | rfl | (simp; done) | (simp [*]; done)), H', ⟨by have := HK1.out; first | omega | exact Nat.le_refl _⟩, ⟨by (with_reducible repeat (first | apply Kd.R_alloc | apply Kd.R_drewN | apply Kd.R_drew)); exact Kd.R_mono (Kd.R_far (p := ⟨gb222, 1, none⟩) (Kd.R_far (p := ⟨gb222, 0, none⟩) (Kd.R_mono HO_7.out (fun k_ hk => (⟨hk, hk.2⟩ : _ ∧ k_ ≠ gb222))) (fun _ hk => hk.2) (.int .i64 ((rd_T31 l0 x13_1).f0))) (fun _ hk => hk.2) (.int .i64 ((rd_T31 l0 x13_1).f1))) (fun _ hk => hk.1.2)⟩, ⟨by (with_reducible repeat (first | refine blk_drewN ?_ _ | refine blk_drew ?_ | refine blk_alloc ?_ _)); refine blk_put (cs := #[.int .i64 ((rd_T31 l0 x13_1).f0), .int .i64 0]) ?_ 1 _ rfl; (with_reducible repeat (first | refine blk_drewN ?_ _ | refine blk_drew ?_ | refine blk_alloc ?_ _)); refine blk_put (cs := #[.int .i64 0, .int .i64 0]) ?_ 0 _ rfl; (with_reducible repeat (first | refine blk_drewN ?_ _ | refine blk_drew ?_ | refine blk_alloc ?_ _)); exact BK222.out⟩, ⟨by repeat (first | (with_reducible first | exact HB.out | apply below_alloc | apply pw_below_drewN | apply below_drew1 | refine below_set ?_ GE222.out) | exact HB.out)⟩⟩
            case rest =>
              clear HC7
              try clear c1
              try clear p2
              try clear q2
              try clear hx2
              try clear c4
              try clear c4b0
              try clear c5
              try clear c5b0
              try clear c6
              try clear c6b0
              try clear c10
              try clear hcz11_0
              try clear hcz11_1
              try clear hcz9_0
              try clear hcz9_1
              try clear hfz11_0
              try clear hfz11_1
              try clear hfz9_0
              try clear hfz9_1
              try clear hx221_0
              try clear hx221_1
              try clear p2
              try clear p221
              try clear q221
              obtain ⟨kq, x24_6, rfl, HA, HJ6, HO_7, BK222, HB⟩ := hcut
              cases kq with
              | zero => exact absurd HA.out (by simp [boscagelaw02_Put.j1])
              | succ kj6 =>
                have H := HA.out
                clear HA
                simp only [boscagelaw02_Put.j1] at H
                by_cases c12 : x24_6 = true
                · subst c12
                  have H1 : (if x7_1.length < 8796093022208 then ((some (x7_1 ++ [(⟨a1, a2⟩ : S31)] : List (S31))).bind fun y223 => (if ((rd_T31 l0 x13_1).f0) = a1 then (boscagelaw02_Put.l0 kj6 a1 a2 y223 true l0 (l0.length : Int) (wrap64 (x13_1 + 1))) else (if y223.length < 8796093022208 then (boscagelaw02_Put.l0 kj6 a1 a2 (y223 ++ [(⟨((rd_T31 l0 x13_1).f0), ((rd_T31 l0 x13_1).f1)⟩ : S31)]) true l0 (l0.length : Int) (wrap64 (x13_1 + 1))) else (none)))) else (none)) = some r := by rw [if_pos rfl] at H; exact H
                  clear H
                  have H := H1
                  clear H1
                  by_cases c13 : x7_1.length < 8796093022208
                  · rw [if_pos c13] at H
                    have LMc13 := Aside0.mk c13
                    clear c13
                    obtain ⟨y223, hy223⟩ : ∃ y_ : List (S31), y_ = (x7_1 ++ [(⟨a1, a2⟩ : S31)]) := ⟨_, rfl⟩
                    replace H : (if ((rd_T31 l0 x13_1).f0) = a1 then (boscagelaw02_Put.l0 kj6 a1 a2 y223 true l0 (l0.length : Int) (wrap64 (x13_1 + 1))) else (if y223.length < 8796093022208 then (boscagelaw02_Put.l0 kj6 a1 a2 (y223 ++ [(⟨((rd_T31 l0 x13_1).f0), ((rd_T31 l0 x13_1).f1)⟩ : S31)]) true l0 (l0.length : Int) (wrap64 (x13_1 + 1))) else (none))) = some r := by first | (rw [hy223]; with_reducible exact H) | (have H2_ := (Option.bind_some _ _).symm.trans H; rw [hy223]; with_reducible exact H2_) | (have H2_ := (Option.bind_some _ _).symm.trans H; with_reducible exact H2_) | with_reducible exact H | (rw [hy223]; exact H) | exact H
                    have Ny223 := Aside0.mk hy223
                    clear hy223
                    by_cases c14 : ((rd_T31 l0 x13_1).f0) = a1
                    · rw [if_pos c14] at H
                      have c14b0 : (((rd_T31 l0 x13_1).f0) == a1) = true := beq_iff_eq.mpr c14
                      have c14b1 : (((rd_T31 l0 x13_1).f0) != a1) = false := bne_eq_false_iff_eq.mpr c14
                      clear c14
                      have H' := Aside0.mk H
                      clear H
                      go_wp2_with (first | ((with_reducible refine gate_builtin (b := .append) (xs := #[.tmp 25, .tmp 29]) rfl ?_); at_builtin; refine Kd.R_append k31 (w0 := w) w.heap.size rfl (.tmp 25) (.tmp 29) 24 31 (.agg #[(.int .i64 0), (.int .i64 0)]) 16 rfl Tryz.underlying24 info31 rfl (by decide) (by omega) u7 x7_1 (⟨a1, a2⟩ : S31) [.int .i64 a1, .int .i64 a2] (fun k_ => k_ ≠ gb222) (fun _ => False) rfl rfl ?aP (fun _ hk => hk.elim) ?aF ?aO ?aB ?aS ?aL ?_; (case aP => exact k31_mkM _ _ _ (⟨a1, a2⟩ : S31)); (case aB => exact (by repeat (first | (with_reducible first | exact HB.out | apply below_alloc | apply pw_below_drewN | apply below_drew1 | refine below_set ?_ GE222.out) | exact HB.out))); (case aF => exact (fun k_ hk => Kd.freshB (g := gb222) (o := .cells #[.int .i64 ((rd_T31 l0 x13_1).f0), .int .i64 ((rd_T31 l0 x13_1).f1)] 31 (0, 0)) (by (with_reducible repeat (first | refine blk_drewN ?_ _ | refine blk_drew ?_ | refine blk_alloc ?_ _)); exact BK222.out) k_ hk)); (case aO => exact (by (with_reducible repeat (first | apply Kd.R_alloc | apply Kd.R_drewN | apply Kd.R_drew)); exact HO_7.out)); (case aS => exact (below_size (by repeat (first | (with_reducible first | exact HB.out | apply below_alloc | apply pw_below_drewN | apply below_drew1 | refine below_set ?_ GE222.out) | exact HB.out)))); (case aL => have := LMc13.out; omega); intro v224 w15 ho hb hg hat; rw [← Ny223.out] at ho; have n0_ := Aside0.mk (blk_grown (g := gb222) (o := .cells #[.int .i64 ((rd_T31 l0 x13_1).f0), .int .i64 ((rd_T31 l0 x13_1).f1)] 31 (0, 0)) (by (with_reducible repeat (first | refine blk_drewN ?_ _ | refine blk_drew ?_ | refine blk_alloc ?_ _)); exact BK222.out) hg (Kd.R_away HO_7.out (fun _ hk => hk))); have n1_ := Aside0.mk (hb); have n2_ := Aside0.mk (ho); clear BK222; clear HB; clear HO_7; have BK222 := n0_; have HB := n1_; have HO225 := n2_; clear n0_ n1_ n2_; clear ho hb hg hat; have hcz16_0 : w15.cell? ⟨gb222, 0, none⟩ = some (.int .i64 ((rd_T31 l0 x13_1).f0)) := (blk_cell BK222.out 0).trans rfl; have hcz16_1 : w15.cell? ⟨gb222, 1, none⟩ = some (.int .i64 ((rd_T31 l0 x13_1).f1)) := (blk_cell BK222.out 1).trans rfl; have hfz16_0 := blk_frozen BK222.out 0; have hfz16_1 := blk_frozen BK222.out 1))
                      go_roundg kj6
                      case measure => have := HK1.out; have := HJ6.out; omega
                      case rel => exact ⟨(y223), (true), (wrap64 (x13_1 + 1)), (by first | rfl | (simp; done) | (simp [*]; done)), (by first | rfl | (simp; done) | (simp [*]; done)), H', ⟨by have := HK1.out; have := HJ6.out; omega⟩, ⟨by (with_reducible repeat (first | apply Kd.R_alloc | apply Kd.R_drewN | apply Kd.R_drew)); exact Kd.R_mono HO225.out (fun _ hk => trivial)⟩, ⟨by repeat (first | (with_reducible first | exact HB.out | apply below_alloc | apply pw_below_drewN | apply below_drew1 | refine below_set ?_ GE222.out) | exact HB.out)⟩⟩
                    · rw [if_neg c14] at H
                      have c14b0 : (((rd_T31 l0 x13_1).f0) == a1) = false := beq_eq_false_iff_ne.mpr c14
                      have c14b1 : (((rd_T31 l0 x13_1).f0) != a1) = true := bne_iff_ne.mpr c14
                      by_cases c17 : y223.length < 8796093022208
                      · rw [if_pos c17] at H
                        have LMc17 := Aside0.mk c17
                        clear c17
                        obtain ⟨y226, hy226⟩ : ∃ y_ : List (S31), y_ = (y223 ++ [(⟨((rd_T31 l0 x13_1).f0), ((rd_T31 l0 x13_1).f1)⟩ : S31)]) := ⟨_, rfl⟩
                        replace H : (boscagelaw02_Put.l0 kj6 a1 a2 y226 true l0 (l0.length : Int) (wrap64 (x13_1 + 1))) = some r := by first | (rw [hy226]; with_reducible exact H) | (have H2_ := (Option.bind_some _ _).symm.trans H; rw [hy226]; with_reducible exact H2_) | (have H2_ := (Option.bind_some _ _).symm.trans H; with_reducible exact H2_) | with_reducible exact H | (rw [hy226]; exact H) | exact H
                        have Ny226 := Aside0.mk hy226
                        clear hy226
                        have H' := Aside0.mk H
                        clear H
                        go_wp2_with (first | ((with_reducible refine gate_builtin (b := .append) (xs := #[.tmp 25, .tmp 29]) rfl ?_); at_builtin; refine Kd.R_append k31 (w0 := w) w.heap.size rfl (.tmp 25) (.tmp 29) 24 31 (.agg #[(.int .i64 0), (.int .i64 0)]) 16 rfl Tryz.underlying24 info31 rfl (by decide) (by omega) u7 x7_1 (⟨a1, a2⟩ : S31) [.int .i64 a1, .int .i64 a2] (fun k_ => k_ ≠ gb222) (fun _ => False) rfl rfl ?aP (fun _ hk => hk.elim) ?aF ?aO ?aB ?aS ?aL ?_; (case aP => exact k31_mkM _ _ _ (⟨a1, a2⟩ : S31)); (case aB => exact (by repeat (first | (with_reducible first | exact HB.out | apply below_alloc | apply pw_below_drewN | apply below_drew1 | refine below_set ?_ GE222.out) | exact HB.out))); (case aF => exact (fun k_ hk => Kd.freshB (g := gb222) (o := .cells #[.int .i64 ((rd_T31 l0 x13_1).f0), .int .i64 ((rd_T31 l0 x13_1).f1)] 31 (0, 0)) (by (with_reducible repeat (first | refine blk_drewN ?_ _ | refine blk_drew ?_ | refine blk_alloc ?_ _)); exact BK222.out) k_ hk)); (case aO => exact (by (with_reducible repeat (first | apply Kd.R_alloc | apply Kd.R_drewN | apply Kd.R_drew)); exact HO_7.out)); (case aS => exact (below_size (by repeat (first | (with_reducible first | exact HB.out | apply below_alloc | apply pw_below_drewN | apply below_drew1 | refine below_set ?_ GE222.out) | exact HB.out)))); (case aL => have := LMc13.out; omega); intro v224 w18 ho hb hg hat; rw [← Ny223.out] at ho; have n0_ := Aside0.mk (blk_grown (g := gb222) (o := .cells #[.int .i64 ((rd_T31 l0 x13_1).f0), .int .i64 ((rd_T31 l0 x13_1).f1)] 31 (0, 0)) (by (with_reducible repeat (first | refine blk_drewN ?_ _ | refine blk_drew ?_ | refine blk_alloc ?_ _)); exact BK222.out) hg (Kd.R_away HO_7.out (fun _ hk => hk))); have n1_ := Aside0.mk (hb); have n2_ := Aside0.mk (ho); clear BK222; clear HB; clear HO_7; have BK222 := n0_; have HB := n1_; have HO225 := n2_; clear n0_ n1_ n2_; clear ho hb hg hat; have hcz19_0 : w18.cell? ⟨gb222, 0, none⟩ = some (.int .i64 ((rd_T31 l0 x13_1).f0)) := (blk_cell BK222.out 0).trans rfl; have hcz19_1 : w18.cell? ⟨gb222, 1, none⟩ = some (.int .i64 ((rd_T31 l0 x13_1).f1)) := (blk_cell BK222.out 1).trans rfl; have hfz19_0 := blk_frozen BK222.out 0; have hfz19_1 := blk_frozen BK222.out 1) | ((with_reducible refine gate_builtin (b := .append) (xs := #[.tmp 35, .tmp 37]) rfl ?_); at_builtin; refine Kd.R_append k31 (w0 := w) w.heap.size rfl (.tmp 35) (.tmp 37) 24 31 (.agg #[(.int .i64 0), (.int .i64 0)]) 16 rfl Tryz.underlying24 info31 rfl (by decide) (by omega) v224 y223 (⟨((rd_T31 l0 x13_1).f0), ((rd_T31 l0 x13_1).f1)⟩ : S31) [.int .i64 ((rd_T31 l0 x13_1).f0), .int .i64 ((rd_T31 l0 x13_1).f1)] (fun k_ => k_ ≠ gb222) (fun _ => False) rfl rfl ?aP (fun _ hk => hk.elim) ?aF ?aO ?aB ?aS ?aL ?_; (case aP => exact k31_mkM _ _ _ (⟨((rd_T31 l0 x13_1).f0), ((rd_T31 l0 x13_1).f1)⟩ : S31)); (case aB => exact (by repeat (first | (with_reducible first | exact HB.out | apply below_alloc | apply pw_below_drewN | apply below_drew1 | refine below_set ?_ GE222.out) | exact HB.out))); (case aF => exact (fun k_ hk => Kd.freshB (g := gb222) (o := .cells #[.int .i64 ((rd_T31 l0 x13_1).f0), .int .i64 ((rd_T31 l0 x13_1).f1)] 31 (0, 0)) (by (with_reducible repeat (first | refine blk_drewN ?_ _ | refine blk_drew ?_ | refine blk_alloc ?_ _)); exact BK222.out) k_ hk)); (case aO => exact (by (with_reducible repeat (first | apply Kd.R_alloc | apply Kd.R_drewN | apply Kd.R_drew)); exact HO225.out)); (case aS => exact (below_size (by repeat (first | (with_reducible first | exact HB.out | apply below_alloc | apply pw_below_drewN | apply below_drew1 | refine below_set ?_ GE222.out) | exact HB.out)))); (case aL => have := LMc17.out; omega); intro v227 w20 ho hb hg hat; rw [← Ny226.out] at ho; have n0_ := Aside0.mk (blk_grown (g := gb222) (o := .cells #[.int .i64 ((rd_T31 l0 x13_1).f0), .int .i64 ((rd_T31 l0 x13_1).f1)] 31 (0, 0)) (by (with_reducible repeat (first | refine blk_drewN ?_ _ | refine blk_drew ?_ | refine blk_alloc ?_ _)); exact BK222.out) hg (Kd.R_away HO225.out (fun _ hk => hk))); have n1_ := Aside0.mk (hb); have n2_ := Aside0.mk (ho); clear BK222; clear HB; clear HO225; have BK222 := n0_; have HB := n1_; have HO228 := n2_; clear n0_ n1_ n2_; clear ho hb hg hat))
                        go_roundg kj6
                        case measure => have := HK1.out; have := HJ6.out; omega
                        case rel => exact ⟨(y226), (true), (wrap64 (x13_1 + 1)), (by first | rfl | (simp; done) | (simp [*]; done)), (by first | rfl | (simp; done) | (simp [*]; done)), H', ⟨by have := HK1.out; have := HJ6.out; omega⟩, ⟨by (with_reducible repeat (first | apply Kd.R_alloc | apply Kd.R_drewN | apply Kd.R_drew)); exact Kd.R_mono HO228.out (fun _ hk => trivial)⟩, ⟨by repeat (first | (with_reducible first | exact HB.out | apply below_alloc | apply pw_below_drewN | apply below_drew1 | refine below_set ?_ GE222.out) | exact HB.out)⟩⟩
                      · rw [if_neg c17] at H
                        exact absurd H (by simp)
                  · rw [if_neg c13] at H
                    exact absurd H (by simp)
                · replace c12 := Bool.eq_false_iff.mpr c12
                  subst c12
                  have H1 : (if ((rd_T31 l0 x13_1).f0) = a1 then (boscagelaw02_Put.l0 kj6 a1 a2 x7_1 x8_1 l0 (l0.length : Int) (wrap64 (x13_1 + 1))) else (if x7_1.length < 8796093022208 then (boscagelaw02_Put.l0 kj6 a1 a2 (x7_1 ++ [(⟨((rd_T31 l0 x13_1).f0), ((rd_T31 l0 x13_1).f1)⟩ : S31)]) x8_1 l0 (l0.length : Int) (wrap64 (x13_1 + 1))) else (none))) = some r := by rw [if_neg (show ¬ (false = true) by decide)] at H; exact H
                  clear H
                  have H := H1
                  clear H1
                  by_cases c21 : ((rd_T31 l0 x13_1).f0) = a1
                  · rw [if_pos c21] at H
                    have c21b0 : (((rd_T31 l0 x13_1).f0) == a1) = true := beq_iff_eq.mpr c21
                    have c21b1 : (((rd_T31 l0 x13_1).f0) != a1) = false := bne_eq_false_iff_eq.mpr c21
                    clear c21
                    have H' := Aside0.mk H
                    clear H
                    have hcz22_0 : wc.cell? ⟨gb222, 0, none⟩ = some (.int .i64 ((rd_T31 l0 x13_1).f0)) := (blk_cell BK222.out 0).trans rfl
                    have hcz22_1 : wc.cell? ⟨gb222, 1, none⟩ = some (.int .i64 ((rd_T31 l0 x13_1).f1)) := (blk_cell BK222.out 1).trans rfl
                    have hfz22_0 := blk_frozen BK222.out 0
                    have hfz22_1 := blk_frozen BK222.out 1
                    go_wp2
                    go_roundg kj6
                    case measure => have := HK1.out; have := HJ6.out; omega
                    case rel => exact ⟨(x7_1), (x8_1), (wrap64 (x13_1 + 1)), (by first | rfl | (simp; done) | (simp [*]; done)), (by first | rfl | (simp; done) | (simp [*]; done)), H', ⟨by have := HK1.out; have := HJ6.out; omega⟩, ⟨by (with_reducible repeat (first | apply Kd.R_alloc | apply Kd.R_drewN | apply Kd.R_drew)); exact Kd.R_mono HO_7.out (fun _ hk => trivial)⟩, ⟨by repeat (first | (with_reducible first | exact HB.out | apply below_alloc | apply pw_below_drewN | apply below_drew1 | refine below_set ?_ GE222.out) | exact HB.out)⟩⟩
                  · rw [if_neg c21] at H
                    have c21b0 : (((rd_T31 l0 x13_1).f0) == a1) = false := beq_eq_false_iff_ne.mpr c21
                    have c21b1 : (((rd_T31 l0 x13_1).f0) != a1) = true := bne_iff_ne.mpr c21
                    by_cases c23 : x7_1.length < 8796093022208
                    · rw [if_pos c23] at H
                      have LMc23 := Aside0.mk c23
                      clear c23
                      obtain ⟨y229, hy229⟩ : ∃ y_ : List (S31), y_ = (x7_1 ++ [(⟨((rd_T31 l0 x13_1).f0), ((rd_T31 l0 x13_1).f1)⟩ : S31)]) := ⟨_, rfl⟩
                      replace H : (boscagelaw02_Put.l0 kj6 a1 a2 y229 x8_1 l0 (l0.length : Int) (wrap64 (x13_1 + 1))) = some r := by first | (rw [hy229]; with_reducible exact H) | (have H2_ := (Option.bind_some _ _).symm.trans H; rw [hy229]; with_reducible exact H2_) | (have H2_ := (Option.bind_some _ _).symm.trans H; with_reducible exact H2_) | with_reducible exact H | (rw [hy229]; exact H) | exact H
                      have Ny229 := Aside0.mk hy229
                      clear hy229
                      have H' := Aside0.mk H
                      clear H
                      have hcz24_0 : wc.cell? ⟨gb222, 0, none⟩ = some (.int .i64 ((rd_T31 l0 x13_1).f0)) := (blk_cell BK222.out 0).trans rfl
                      have hcz24_1 : wc.cell? ⟨gb222, 1, none⟩ = some (.int .i64 ((rd_T31 l0 x13_1).f1)) := (blk_cell BK222.out 1).trans rfl
                      have hfz24_0 := blk_frozen BK222.out 0
                      have hfz24_1 := blk_frozen BK222.out 1
                      go_wp2_with (first | ((with_reducible refine gate_builtin (b := .append) (xs := #[.tmp 35, .tmp 37]) rfl ?_); at_builtin; refine Kd.R_append k31 (w0 := w) w.heap.size rfl (.tmp 35) (.tmp 37) 24 31 (.agg #[(.int .i64 0), (.int .i64 0)]) 16 rfl Tryz.underlying24 info31 rfl (by decide) (by omega) u7 x7_1 (⟨((rd_T31 l0 x13_1).f0), ((rd_T31 l0 x13_1).f1)⟩ : S31) [.int .i64 ((rd_T31 l0 x13_1).f0), .int .i64 ((rd_T31 l0 x13_1).f1)] (fun k_ => k_ ≠ gb222) (fun _ => False) rfl rfl ?aP (fun _ hk => hk.elim) ?aF ?aO ?aB ?aS ?aL ?_; (case aP => exact k31_mkM _ _ _ (⟨((rd_T31 l0 x13_1).f0), ((rd_T31 l0 x13_1).f1)⟩ : S31)); (case aB => exact (by repeat (first | (with_reducible first | exact HB.out | apply below_alloc | apply pw_below_drewN | apply below_drew1 | refine below_set ?_ GE222.out) | exact HB.out))); (case aF => exact (fun k_ hk => Kd.freshB (g := gb222) (o := .cells #[.int .i64 ((rd_T31 l0 x13_1).f0), .int .i64 ((rd_T31 l0 x13_1).f1)] 31 (0, 0)) (by (with_reducible repeat (first | refine blk_drewN ?_ _ | refine blk_drew ?_ | refine blk_alloc ?_ _)); exact BK222.out) k_ hk)); (case aO => exact (by (with_reducible repeat (first | apply Kd.R_alloc | apply Kd.R_drewN | apply Kd.R_drew)); exact HO_7.out)); (case aS => exact (below_size (by repeat (first | (with_reducible first | exact HB.out | apply below_alloc | apply pw_below_drewN | apply below_drew1 | refine below_set ?_ GE222.out) | exact HB.out)))); (case aL => have := LMc23.out; omega); intro v230 w25 ho hb hg hat; rw [← Ny229.out] at ho; have n0_ := Aside0.mk (blk_grown (g := gb222) (o := .cells #[.int .i64 ((rd_T31 l0 x13_1).f0), .int .i64 ((rd_T31 l0 x13_1).f1)] 31 (0, 0)) (by (with_reducible repeat (first | refine blk_drewN ?_ _ | refine blk_drew ?_ | refine blk_alloc ?_ _)); exact BK222.out) hg (Kd.R_away HO_7.out (fun _ hk => hk))); have n1_ := Aside0.mk (hb); have n2_ := Aside0.mk (ho); clear BK222; clear HB; clear HO_7; have BK222 := n0_; have HB := n1_; have HO231 := n2_; clear n0_ n1_ n2_; clear ho hb hg hat))
                      go_roundg kj6
                      case measure => have := HK1.out; have := HJ6.out; omega
                      case rel => exact ⟨(y229), (x8_1), (wrap64 (x13_1 + 1)), (by first | rfl | (simp; done) | (simp [*]; done)), (by first | rfl | (simp; done) | (simp [*]; done)), H', ⟨by have := HK1.out; have := HJ6.out; omega⟩, ⟨by (with_reducible repeat (first | apply Kd.R_alloc | apply Kd.R_drewN | apply Kd.R_drew)); exact Kd.R_mono HO231.out (fun _ hk => trivial)⟩, ⟨by repeat (first | (with_reducible first | exact HB.out | apply below_alloc | apply pw_below_drewN | apply below_drew1 | refine below_set ?_ GE222.out) | exact HB.out)⟩⟩
                    · rw [if_neg c23] at H
                      exact absurd H (by simp)
          · rw [if_neg c6] at H
            exact absurd H (by simp)
        · rw [if_neg c5] at H
          exact absurd H (by simp)
      · rw [if_neg c4] at H
        have c4b0 : decide (x13_1 < (l0.length : Int)) = false := decide_eq_false c4
        clear c4
        by_cases c26 : x8_1 = true
        · subst c26
          have H1 : (some x7_1) = some r := by rw [if_pos rfl] at H; exact H
          clear H
          have H := H1
          clear H1
          obtain rfl := Option.some.inj H
          go_wp2
          go_ret
          exact ⟨_, by first | rfl | (simp [errW_none, errW_some] <;> rfl) | (simp [*, errW_none, errW_some] <;> rfl), by (with_reducible repeat (first | apply Kd.R_alloc | apply Kd.R_drewN | apply Kd.R_drew)); exact HO_7.out, by repeat (first | (with_reducible first | exact HB.out | apply below_alloc | apply pw_below_drewN | apply below_drew1) | exact HB.out)⟩
        · replace c26 := Bool.eq_false_iff.mpr c26
          subst c26
          have H1 : (if x7_1.length < 8796093022208 then (some (x7_1 ++ [(⟨a1, a2⟩ : S31)])) else (none)) = some r := by rw [if_neg (show ¬ (false = true) by decide)] at H; exact H
          clear H
          have H := H1
          clear H1
          by_cases c27 : x7_1.length < 8796093022208
          · rw [if_pos c27] at H
            have LMc27 := Aside0.mk c27
            clear c27
            obtain ⟨y218, hy218⟩ : ∃ y_ : List (S31), y_ = (x7_1 ++ [(⟨a1, a2⟩ : S31)]) := ⟨_, rfl⟩
            replace H : (some y218) = some r := by first | (rw [hy218]; with_reducible exact H) | (have H2_ := (Option.bind_some _ _).symm.trans H; rw [hy218]; with_reducible exact H2_) | (have H2_ := (Option.bind_some _ _).symm.trans H; with_reducible exact H2_) | with_reducible exact H | (rw [hy218]; exact H) | exact H
            have Ny218 := Aside0.mk hy218
            clear hy218
            obtain rfl := Option.some.inj H
            go_wp2_with (first | ((with_reducible refine gate_builtin (b := .append) (xs := #[.tmp 42, .tmp 46]) rfl ?_); at_builtin; refine Kd.R_append k31 (w0 := w) w.heap.size rfl (.tmp 42) (.tmp 46) 24 31 (.agg #[(.int .i64 0), (.int .i64 0)]) 16 rfl Tryz.underlying24 info31 rfl (by decide) (by omega) u7 x7_1 (⟨a1, a2⟩ : S31) [.int .i64 a1, .int .i64 a2] (fun _ => True) (fun _ => False) rfl rfl ?aP (fun _ hk => hk.elim) ?aF ?aO ?aB ?aS ?aL ?_; (case aP => exact k31_mkM _ _ _ (⟨a1, a2⟩ : S31)); (case aB => exact (by repeat (first | (with_reducible first | exact HB.out | apply below_alloc | apply pw_below_drewN | apply below_drew1) | exact HB.out))); (case aF => exact (fun _ _ => trivial)); (case aO => exact (by (with_reducible repeat (first | apply Kd.R_alloc | apply Kd.R_drewN | apply Kd.R_drew)); exact HO_7.out)); (case aS => exact (below_size (by repeat (first | (with_reducible first | exact HB.out | apply below_alloc | apply pw_below_drewN | apply below_drew1) | exact HB.out)))); (case aL => have := LMc27.out; omega); intro v219 w28 ho hb hg hat; rw [← Ny218.out] at ho; have n0_ := Aside0.mk (hb); have n1_ := Aside0.mk (ho); clear HB; clear HO_7; have HB := n0_; have HO220 := n1_; clear n0_ n1_; clear ho hb hg hat))
            go_ret
            exact ⟨_, by first | rfl | (simp [errW_none, errW_some] <;> rfl) | (simp [*, errW_none, errW_some] <;> rfl), by (with_reducible repeat (first | apply Kd.R_alloc | apply Kd.R_drewN | apply Kd.R_drew)); exact HO220.out, by repeat (first | (with_reducible first | exact HB.out | apply below_alloc | apply pw_below_drewN | apply below_drew1) | exact HB.out)⟩
          · rw [if_neg c27] at H
            exact absurd H (by simp)
def boscagelaw02_Rising.l0 : Nat → List (S31) → List Int → Int → Int → Option ((List (S31)))
  | 0, _, _, _, _ => none
  | k + 1, x3, x6, x7, x8 => if x8 < x7 then (if 0 ≤ x8 then (if x8 < (x6.length : Int) then ((boscagelaw02_Put.f k x3 (rd x6 x8) (wrap64 (x8 + 100))).bind fun t233 => (boscagelaw02_Rising.l0 k t233 x6 x7 (wrap64 (x8 + 1)))) else (none)) else (none)) else (some x3)
def boscagelaw02_Rising.f (k : Nat) (l0 : List Int) : Option ((List (S31))) := boscagelaw02_Rising.l0 k ([] : List (S31)) l0 (l0.length : Int) 0
theorem boscagelaw02_Rising.mono_l : ∀ k, (∀ y0 y1 y2 y3, LeO (boscagelaw02_Rising.l0 k y0 y1 y2 y3) (boscagelaw02_Rising.l0 (k + 1) y0 y1 y2 y3))
  | 0 => fun _ _ _ _ r h => by simp [boscagelaw02_Rising.l0] at h
  | k + 1 => by
    have ih0 := boscagelaw02_Rising.mono_l k
    · intro y0 y1 y2 y3
      unfold boscagelaw02_Rising.l0
      repeat' first
      | (with_reducible exact ih0 _ _ _ _)
      | (with_reducible exact boscagelaw02_Put.mono _ _ _ _)
      | (with_reducible exact LeO.refl _)
      | (with_reducible exact LeO.none _)
      | (with_reducible refine LeO.ite ?_ ?_)
      | (with_reducible refine LeO.bind ?_ (fun _ => ?_))
      | exact ih0 _ _ _ _
      | exact boscagelaw02_Put.mono _ _ _ _
      | exact LeO.none _
      | refine LeO.ite ?_ ?_
      | refine LeO.bind ?_ (fun _ => ?_)
theorem boscagelaw02_Rising.mono : ∀ a0 k, LeO (boscagelaw02_Rising.f k a0) (boscagelaw02_Rising.f (k + 1) a0) := by
  intro a0 k
  have ih0 := boscagelaw02_Rising.mono_l k
  unfold boscagelaw02_Rising.f
  repeat' first
      | (with_reducible exact ih0 _ _ _ _)
      | (with_reducible exact boscagelaw02_Put.mono _ _ _ _)
      | (with_reducible exact LeO.refl _)
      | (with_reducible exact LeO.none _)
      | (with_reducible refine LeO.ite ?_ ?_)
      | (with_reducible refine LeO.bind ?_ (fun _ => ?_))
      | exact ih0 _ _ _ _
      | exact boscagelaw02_Put.mono _ _ _ _
      | exact LeO.none _
      | refine LeO.ite ?_ ?_
      | refine LeO.bind ?_ (fun _ => ?_)
set_option maxHeartbeats 8000000 in
set_option maxRecDepth 100000 in
theorem boscagelaw02_Rising.calls (k : Nat) (A0 : Option Addr) (c0 : Nat) (l0 : List Int) (r : List (S31)) (w : World) (hr0 : Kd.C (Kd.int .i64) w A0 l0.length l0) (hc0 : l0.length ≤ c0) (h : boscagelaw02_Rising.f k l0 = some r) :
    Calls Tryz.prog 36 #[.slice A0 l0.length c0] w fun e w' => ∃ v0_ : Value, e = .returned (v0_) ∧ Kd.R k31 31 w' w.heap.size (fun _ => True) v0_ r ∧ Below w.heap.size w w' := by
  have HR0 := Aside0.mk hr0
  have HC0 := Aside0.mk hc0
  clear hr0 hc0
  have HB := Aside0.mk (Below.refl w.heap.size w)
  have H : (boscagelaw02_Rising.l0 k ([] : List (S31)) l0 (l0.length : Int) 0) = some r := h
  clear h
  have H' := Aside0.mk H
  clear H
  go_enter Tryz.func36, Tryz.ntmps36
  go_wp2
  go_loopg [3, 8] k (fun kq v3 v8 w' => ∃ (x3_1 : List (S31)) (x8_1 : Int), v8 = .int .i64 x8_1 ∧ Aside0 (boscagelaw02_Rising.l0 kq x3_1 l0 (l0.length : Int) x8_1 = some r) ∧ Aside0 (kq ≤ k) ∧ Aside0 (Kd.R k31 31 w' w.heap.size (fun _ => True) v3 x3_1) ∧ Aside0 (Below w.heap.size w w'))
  case atStart => exact ⟨(([] : List (S31))), (0), (by first | rfl | (simp; done) | (simp [*]; done)), H', ⟨Nat.le_refl _⟩, ⟨by first | exact Kd.R_nil _ _ _ _ _ | exact Kd.N_nil _ _ _ _ _ | exact Kd.V_nil _ _ _ _ _ | exact Kd.Q_nil _ _ _ _ _ | exact Kd.S_nil _ _ _ _ _⟩, ⟨by repeat (first | (with_reducible first | exact HB.out | apply below_alloc | apply pw_below_drewN | apply below_drew1) | exact HB.out)⟩⟩
  case round =>
    clear H'
    obtain ⟨x3_1, x8_1, rfl, HA, HK1, HO_3, HB⟩ := hrel
    cases gk with
    | zero => exact absurd HA.out (by simp [boscagelaw02_Rising.l0])
    | succ k1 =>
      have H := HA.out
      clear HA
      simp only [boscagelaw02_Rising.l0] at H
      by_cases c2 : x8_1 < (l0.length : Int)
      · rw [if_pos c2] at H
        have c2b0 : decide (x8_1 < (l0.length : Int)) = true := decide_eq_true c2
        clear c2
        by_cases c3 : 0 ≤ x8_1
        · rw [if_pos c3] at H
          have c3b0 : decide (0 ≤ x8_1) = true := decide_eq_true c3
          clear c3
          by_cases c4 : x8_1 < (l0.length : Int)
          · rw [if_pos c4] at H
            have c4b0 : decide (x8_1 < (l0.length : Int)) = true := decide_eq_true c4
            clear c4
            replace H := Option.bind_eq_some_iff.mp H
            obtain ⟨t233, A50, H⟩ := H
            replace H : (boscagelaw02_Rising.l0 k1 t233 l0 (l0.length : Int) (wrap64 (x8_1 + 1))) = some r := H
            have A5 := Aside0.mk A50
            clear A50
            have H' := Aside0.mk H
            clear H
            have p232 : 0 ≤ (x8_1 : Int) := of_decide_eq_true (by first | (with_reducible assumption) | assumption)
            have q232 : x8_1 < (l0.length : Int) := of_decide_eq_true (by first | (with_reducible assumption) | assumption)
            obtain ⟨ad232, e232, hx232_0⟩ := Kd.at_int HR0.out x8_1 p232 q232
            cases e232
            replace hx232_0 := (HB.out.cell (World.block_lt_of_cell? w _ hx232_0)).trans hx232_0
            replace p232 := eq_true p232
            replace q232 := eq_true q232
            obtain ⟨Ao6, co6, eo6⟩ := Kd.R_slice HO_3.out
            subst eo6
            go_wp2_with (first | ((with_reducible refine gate_callee (f := 47) rfl ?_); refine goesL_ (some 17) rfl rfl Tryz.func47 (by kernel_rfl) rfl #[.slice Ao6 x3_1.length co6, .int .i64 (rd l0 x8_1), .int .i64 (wrap64 (x8_1 + 100))] rfl (by (try simp only [List.map_toArray, List.map_cons, List.map_nil]); first | done | rfl | (simp only [List.length_drop, List.length_take]; rfl)) ?_; (with_reducible refine (boscagelaw02_Put.calls k1 _ _ x3_1 (rd l0 x8_1) (wrap64 (x8_1 + 100)) t233 _ ?side1 ?side2 A5.out).mono ?_); (case side1 => repeat (first | exact (Kd.R_reads' HO_3.out).2.2 | (with_reducible refine Kd.C_alloc ?_ _) | (with_reducible refine Kd.C_drewN ?_ _) | (with_reducible refine Kd.C_drew ?_))); (case side2 => exact (Kd.R_reads' HO_3.out).2.1); rintro e w7 ⟨v234, rfl, ho0, hb⟩; refine ⟨_, rfl, ?_⟩; have n0_ := Aside0.mk (Kd.R_elder' (by (with_reducible repeat (first | apply Kd.R_alloc | apply Kd.R_drewN | apply Kd.R_drew)); exact HO_3.out) (Kd.R_base ho0) hb); have n1_ := Aside0.mk (Kd.R_lower (Kd.R_new' ho0 (Kd.R_lt (by (with_reducible repeat (first | apply Kd.R_alloc | apply Kd.R_drewN | apply Kd.R_drew)); exact HO_3.out))) (below_size (by repeat (first | (with_reducible first | exact HB.out | apply below_alloc | apply pw_below_drewN | apply below_drew1) | exact HB.out)))); have n2_ := Aside0.mk (below_step (by repeat (first | (with_reducible first | exact HB.out | apply below_alloc | apply pw_below_drewN | apply below_drew1) | exact HB.out)) hb); clear HO_3; clear HB; have HO_3 := n0_; have HO235 := n1_; have HB := n2_; clear n0_ n1_ n2_; (try clear hb); (try clear hb2); (try clear hk); (try clear hi); (try clear ho0)))
            go_roundg k1
            case measure => have := HK1.out; omega
            case rel => exact ⟨(t233), (wrap64 (x8_1 + 1)), (by first | rfl | (simp; done) | (simp [*]; done)), H', ⟨by have := HK1.out; omega⟩, ⟨by (with_reducible repeat (first | apply Kd.R_alloc | apply Kd.R_drewN | apply Kd.R_drew)); exact Kd.R_mono HO235.out (fun _ hk => trivial)⟩, ⟨by repeat (first | (with_reducible first | exact HB.out | apply below_alloc | apply pw_below_drewN | apply below_drew1) | exact HB.out)⟩⟩
          · rw [if_neg c4] at H
            exact absurd H (by simp)
        · rw [if_neg c3] at H
          exact absurd H (by simp)
      · rw [if_neg c2] at H
        have c2b0 : decide (x8_1 < (l0.length : Int)) = false := decide_eq_false c2
        clear c2
        obtain rfl := Option.some.inj H
        go_wp2
        go_ret
        exact ⟨_, by first | rfl | (simp [errW_none, errW_some] <;> rfl) | (simp [*, errW_none, errW_some] <;> rfl), by (with_reducible repeat (first | apply Kd.R_alloc | apply Kd.R_drewN | apply Kd.R_drew)); exact HO_3.out, by repeat (first | (with_reducible first | exact HB.out | apply below_alloc | apply pw_below_drewN | apply below_drew1) | exact HB.out)⟩
end Go.Proofs.YthlmgbdknjilpaaGreat.PAskKinds
namespace Go.Proofs.YthlmgbdknjilpaaGreat.Tower
open Go Go.RowKit Go.Proofs.YthlmgbdknjilpaaGreatW.PrintWords Go.Proofs.YthlmgbdknjilpaaGreatW.PrintLast Go.Proofs.YthlmgbdknjilpaaGreatW.PrintMore Go.Proofs.YthlmgbdknjilpaaGreat.Own Go.Proofs.YthlmgbdknjilpaaGreat.PAskKinds
set_option linter.unusedVariables false
set_option linter.unusedSimpArgs false
abbrev Pr2 := S31
abbrev kP := k31
abbrev Sh := S42
abbrev kSh := k42
abbrev zSh := z42
def partsN (n b : Nat) : List Nat := (List.range ((n + b - 1) / b)).map fun i => (n - i + (n + b - 1) / b - 1) / ((n + b - 1) / b)
set_option maxRecDepth 100000 in
theorem parts_all : ∀ n : Fin 61, ∀ b : Fin 9, 3 ≤ b.val → boscagelaw11_Parts.f 300 (n.val : Int) (b.val : Int) = some ((partsN n b).map Int.ofNat) := by decide +kernel
theorem parts_f (n b : Nat) (hn : n ≤ 60) (hb : 3 ≤ b) (hb1 : b ≤ 8) : boscagelaw11_Parts.f 300 (n : Int) (b : Int) = some ((partsN n b).map Int.ofNat) := parts_all ⟨n, by omega⟩ ⟨b, by omega⟩ hb
theorem parts_good_all : ∀ n : Fin 61, ∀ b : Fin 9, 3 ≤ b.val → ((partsN n b).sum = n.val ∧ (∀ x ∈ partsN n b, 1 ≤ x ∧ x ≤ b.val) ∧ (1 < n.val → (partsN n b).length < n.val) ∧ (partsN n b).length ≤ n.val ∧ (1 < (partsN n b).length → ∀ x ∈ partsN n b, (b.val + 1) / 2 ≤ x)) := by decide +kernel
theorem parts_good (n b : Nat) (hn : n ≤ 60) (hb : 3 ≤ b) (hb1 : b ≤ 8) : (partsN n b).sum = n ∧ (∀ x ∈ partsN n b, 1 ≤ x ∧ x ≤ b) ∧ (1 < n → (partsN n b).length < n) ∧ (partsN n b).length ≤ n ∧ (1 < (partsN n b).length → ∀ x ∈ partsN n b, (b + 1) / 2 ≤ x) := parts_good_all ⟨n, by omega⟩ ⟨b, by omega⟩ hb
def leafRow : List Pr2 → List Nat → List Sh
  | _, [] => []
  | xs, n :: ns => ⟨true, false, xs.take n, [], []⟩ :: leafRow (xs.drop n) ns
def leafKey : List Pr2 → List Nat → List Int
  | _, [] => []
  | xs, n :: ns => (rd_T31 xs 0).f0 :: leafKey (xs.drop n) ns
def upRow (row : List Sh) (fs : List Int) : Nat → List Nat → List Sh
  | _, [] => []
  | i, n :: ns => ⟨false, false, [], (fs.take (i + n)).drop (i + 1), (row.take (i + n)).drop i⟩ :: upRow row fs (i + n) ns
def upKey (fs : List Int) : Nat → List Nat → List Int
  | _, [] => []
  | i, n :: ns => rd fs (i : Int) :: upKey fs (i + n) ns
def evenUp (b : Nat) : Nat → List Sh → List Int → Sh
  | 0, row, _ => row.headD zSh
  | f + 1, row, fs => if 1 < row.length then evenUp b f (upRow row fs 0 (partsN row.length b)) (upKey fs 0 (partsN row.length b)) else row.headD zSh
def evenT (xs : List Pr2) (b : Nat) : Sh := if xs.length = 0 then ⟨true, false, [], [], []⟩ else evenUp b 60 (leafRow xs (partsN xs.length b)) (leafKey xs (partsN xs.length b))
theorem leafRow_length : ∀ (ns : List Nat) (xs : List Pr2), (leafRow xs ns).length = ns.length
  | [], _ => rfl
  | n :: ns, xs => by simp [leafRow, leafRow_length ns]
theorem upRow_length (row : List Sh) (fs : List Int) : ∀ (ns : List Nat) (i : Nat), (upRow row fs i ns).length = ns.length
  | [], _ => rfl
  | n :: ns, i => by simp [upRow, upRow_length row fs ns]
end Go.Proofs.YthlmgbdknjilpaaGreat.Tower
namespace Go.Proofs.YthlmgbdknjilpaaGreat.PAskKinds
open Go.RowKit Go.Proofs.YthlmgbdknjilpaaGreatW.PrintWords Go.Proofs.YthlmgbdknjilpaaGreatW.PrintLast Go.Proofs.YthlmgbdknjilpaaGreatW.PrintMore
attribute [local go_sem] max2_int min2_int max_two min_two max_three min_three max_four min_four
set_option linter.unusedVariables false
set_option linter.unusedSimpArgs false
mutual
def boscagelaw11_Shape_Many.l0 : Nat → Int → List (S42) → Int → Int → Option (Int)
  | 0, _, _, _, _ => none
  | k + 1, x3, x7, x8, x9 => if x9 < x8 then (if 0 ≤ x9 then (if x9 < (x7.length : Int) then ((boscagelaw11_Shape_Many.f k ((rd_T42 x7 x9).f0) ((rd_T42 x7 x9).f1) ((rd_T42 x7 x9).f2) ((rd_T42 x7 x9).f3) ((rd_T42 x7 x9).f4)).bind fun t239 => (boscagelaw11_Shape_Many.l0 k (wrap64 (x3 + t239)) x7 x8 (wrap64 (x9 + 1)))) else (none)) else (none)) else (some x3)
def boscagelaw11_Shape_Many.f : Nat → Bool → Bool → List (S31) → List Int → List (S42) → Option (Int)
  | 0, _, _, _, _, _ => none
  | k + 1, a0_0, a0_1, l0_2, l0_3, l0_4 => boscagelaw11_Shape_Many.l0 k 1 l0_4 (l0_4.length : Int) 0
end
theorem boscagelaw11_Shape_Many.mono_l : ∀ k, (∀ y0 y1 y2 y3 y4, LeO (boscagelaw11_Shape_Many.f k y0 y1 y2 y3 y4) (boscagelaw11_Shape_Many.f (k + 1) y0 y1 y2 y3 y4)) ∧ (∀ y0 y1 y2 y3, LeO (boscagelaw11_Shape_Many.l0 k y0 y1 y2 y3) (boscagelaw11_Shape_Many.l0 (k + 1) y0 y1 y2 y3))
  | 0 => ⟨fun _ _ _ _ _ r h => by simp [boscagelaw11_Shape_Many.f] at h, fun _ _ _ _ r h => by simp [boscagelaw11_Shape_Many.l0] at h⟩
  | k + 1 => by
    obtain ⟨ih0, ih1⟩ := boscagelaw11_Shape_Many.mono_l k
    refine ⟨?_, ?_⟩
    · intro y0 y1 y2 y3 y4
      unfold boscagelaw11_Shape_Many.f
      repeat' first
      | (with_reducible exact ih0 _ _ _ _ _)
      | (with_reducible exact ih1 _ _ _ _)
      | (with_reducible exact LeO.refl _)
      | (with_reducible exact LeO.none _)
      | (with_reducible refine LeO.ite ?_ ?_)
      | (with_reducible refine LeO.bind ?_ (fun _ => ?_))
      | exact ih0 _ _ _ _ _
      | exact ih1 _ _ _ _
      | exact LeO.none _
      | refine LeO.ite ?_ ?_
      | refine LeO.bind ?_ (fun _ => ?_)
    · intro y0 y1 y2 y3
      unfold boscagelaw11_Shape_Many.l0
      repeat' first
      | (with_reducible exact ih0 _ _ _ _ _)
      | (with_reducible exact ih1 _ _ _ _)
      | (with_reducible exact LeO.refl _)
      | (with_reducible exact LeO.none _)
      | (with_reducible refine LeO.ite ?_ ?_)
      | (with_reducible refine LeO.bind ?_ (fun _ => ?_))
      | exact ih0 _ _ _ _ _
      | exact ih1 _ _ _ _
      | exact LeO.none _
      | refine LeO.ite ?_ ?_
      | refine LeO.bind ?_ (fun _ => ?_)
theorem boscagelaw11_Shape_Many.mono : ∀ a0 a1 a2 a3 a4 k, LeO (boscagelaw11_Shape_Many.f k a0 a1 a2 a3 a4) (boscagelaw11_Shape_Many.f (k + 1) a0 a1 a2 a3 a4) := by
  intro a0 a1 a2 a3 a4 k
  obtain ⟨ih0, ih1⟩ := boscagelaw11_Shape_Many.mono_l k
  exact ih0 a0 a1 a2 a3 a4
set_option maxHeartbeats 8000000 in
set_option maxRecDepth 100000 in
theorem boscagelaw11_Shape_Many.calls (k : Nat) : ∀ (a0_0 : Bool) (a0_1 : Bool) (A0_2 : Option Addr) (c0_2 : Nat) (l0_2 : List (S31)) (A0_3 : Option Addr) (c0_3 : Nat) (l0_3 : List Int) (A0_4 : Option Addr) (c0_4 : Nat) (l0_4 : List (S42)) (r : Int) (w : World) (hr0_2 : Kd.C k31 w A0_2 l0_2.length l0_2) (hc0_2 : l0_2.length ≤ c0_2) (hr0_3 : Kd.C (Kd.int .i64) w A0_3 l0_3.length l0_3) (hc0_3 : l0_3.length ≤ c0_3) (hr0_4 : Kd.C k42 w A0_4 l0_4.length l0_4) (hc0_4 : l0_4.length ≤ c0_4) (h : boscagelaw11_Shape_Many.f k a0_0 a0_1 l0_2 l0_3 l0_4 = some r),
    Calls Tryz.prog 31 #[.agg #[.bool a0_0, .bool a0_1, .slice A0_2 l0_2.length c0_2, .slice A0_3 l0_3.length c0_3, .slice A0_4 l0_4.length c0_4]] w fun e w' => e = .returned (.int .i64 r) ∧ Below w.heap.size w w' := by
  induction k using Nat.strongRecOn with
  | _ k ih =>
  intro a0_0 a0_1 A0_2 c0_2 l0_2 A0_3 c0_3 l0_3 A0_4 c0_4 l0_4 r w hr0_2 hc0_2 hr0_3 hc0_3 hr0_4 hc0_4 h
  cases k with
  | zero => exact absurd h (by simp [boscagelaw11_Shape_Many.f])
  | succ k =>
  simp only [boscagelaw11_Shape_Many.f] at h
  have hu42 := Tryz.underlying42
  have HR0_2 := Aside0.mk hr0_2
  have HC0_2 := Aside0.mk hc0_2
  clear hr0_2 hc0_2
  have HR0_3 := Aside0.mk hr0_3
  have HC0_3 := Aside0.mk hc0_3
  clear hr0_3 hc0_3
  have HR0_4 := Aside0.mk hr0_4
  have HC0_4 := Aside0.mk hc0_4
  clear hr0_4 hc0_4
  have HB := Aside0.mk (Below.refl w.heap.size w)
  have H : (boscagelaw11_Shape_Many.l0 k 1 l0_4 (l0_4.length : Int) 0) = some r := h
  clear h
  have H' := Aside0.mk H
  clear H
  go_enter Tryz.func31, Tryz.ntmps31
  go_wp2_with (first | ((with_reducible refine gate_dst (N := 1) rfl ?_); refine box_event ?hg (N := 1) ?hd (cs := #[.bool a0_0, .bool a0_1, .slice A0_2 l0_2.length c0_2, .slice A0_3 l0_3.length c0_3, .slice A0_4 l0_4.length c0_4]) (t := 42) ?hr ?_; (case hd => rfl); (case hg => rfl); (case hr => first | (go_simp; done) | (go_simp; rfl)); intro gb236 hg w2 hbox hb; have n0_ := Aside0.mk (below_step (by repeat (first | (with_reducible first | exact HB.out | apply below_alloc | apply pw_below_drewN | apply below_drew1) | exact HB.out)) hb); have n1_ := Aside0.mk (hbox); have n2_ := Aside0.mk ((by rw [hg]; exact (below_size (by repeat (first | (with_reducible first | exact HB.out | apply below_alloc | apply pw_below_drewN | apply below_drew1) | exact HB.out))) : w.heap.size ≤ gb236)); have n3_ := Aside0.mk ((by rw [hg]; exact (below_size (by repeat (first | (with_reducible first | exact HB.out | apply below_alloc | apply pw_below_drewN | apply below_drew1) | exact HB.out))) : w.heap.size ≤ gb236)); clear HB; have HB := n0_; have BK236 := n1_; have GW236 := n2_; have GE236 := n3_; clear n0_ n1_ n2_ n3_; clear hb hbox hg; have hcz3_0 : w2.cell? ⟨gb236, 0, none⟩ = some (.bool a0_0) := (blk_cell BK236.out 0).trans rfl; have hcz3_1 : w2.cell? ⟨gb236, 1, none⟩ = some (.bool a0_1) := (blk_cell BK236.out 1).trans rfl; have hcz3_2 : w2.cell? ⟨gb236, 2, none⟩ = some (.slice A0_2 l0_2.length c0_2) := (blk_cell BK236.out 2).trans rfl; have hcz3_3 : w2.cell? ⟨gb236, 3, none⟩ = some (.slice A0_3 l0_3.length c0_3) := (blk_cell BK236.out 3).trans rfl; have hcz3_4 : w2.cell? ⟨gb236, 4, none⟩ = some (.slice A0_4 l0_4.length c0_4) := (blk_cell BK236.out 4).trans rfl; have hfz3_0 := blk_frozen BK236.out 0; have hfz3_1 := blk_frozen BK236.out 1; have hfz3_2 := blk_frozen BK236.out 2; have hfz3_3 := blk_frozen BK236.out 3; have hfz3_4 := blk_frozen BK236.out 4))
  go_loopg [3, 9] k (fun kq v3 v9 w' => ∃ (x3_1 : Int) (x9_1 : Int), v3 = .int .i64 x3_1 ∧ v9 = .int .i64 x9_1 ∧ Aside0 (boscagelaw11_Shape_Many.l0 kq x3_1 l0_4 (l0_4.length : Int) x9_1 = some r) ∧ Aside0 (kq ≤ k) ∧ Aside0 (w'.heap[gb236]? = some (.cells #[.bool a0_0, .bool a0_1, (.slice A0_2 l0_2.length c0_2), (.slice A0_3 l0_3.length c0_3), (.slice A0_4 l0_4.length c0_4)] 42 (0, 0))) ∧ Aside0 (Below w.heap.size w w'))
  case atStart => exact ⟨(1), (0), (by first | rfl | (simp; done) | (simp [*]; done)), (by first | rfl | (simp; done) | (simp [*]; done)), H', ⟨Nat.le_refl _⟩, ⟨by (with_reducible repeat (first | refine blk_drewN ?_ _ | refine blk_drew ?_ | refine blk_alloc ?_ _)); exact BK236.out⟩, ⟨by repeat (first | (with_reducible first | exact HB.out | apply below_alloc | apply pw_below_drewN | apply below_drew1 | refine below_set ?_ GE236.out) | exact HB.out)⟩⟩
  case round =>
    clear H'
    try clear p2
    try clear c3
    try clear hcz3_0
    try clear hcz3_1
    try clear hcz3_2
    try clear hcz3_3
    try clear hcz3_4
    try clear hfz3_0
    try clear hfz3_1
    try clear hfz3_2
    try clear hfz3_3
    try clear hfz3_4
    obtain ⟨x3_1, x9_1, rfl, rfl, HA, HK1, BK236, HB⟩ := hrel
    cases gk with
    | zero => exact absurd HA.out (by simp [boscagelaw11_Shape_Many.l0])
    | succ k1 =>
      have H := HA.out
      clear HA
      simp only [boscagelaw11_Shape_Many.l0] at H
      by_cases c4 : x9_1 < (l0_4.length : Int)
      · rw [if_pos c4] at H
        have c4b0 : decide (x9_1 < (l0_4.length : Int)) = true := decide_eq_true c4
        clear c4
        by_cases c5 : 0 ≤ x9_1
        · rw [if_pos c5] at H
          have c5b0 : decide (0 ≤ x9_1) = true := decide_eq_true c5
          clear c5
          by_cases c6 : x9_1 < (l0_4.length : Int)
          · rw [if_pos c6] at H
            have c6b0 : decide (x9_1 < (l0_4.length : Int)) = true := decide_eq_true c6
            clear c6
            replace H := Option.bind_eq_some_iff.mp H
            obtain ⟨t239, A70, H⟩ := H
            replace H : (boscagelaw11_Shape_Many.l0 k1 (wrap64 (x3_1 + t239)) l0_4 (l0_4.length : Int) (wrap64 (x9_1 + 1))) = some r := H
            have A7 := Aside0.mk A70
            clear A70
            have H' := Aside0.mk H
            clear H
            have p237 : 0 ≤ (x9_1 : Int) := of_decide_eq_true (by first | (with_reducible assumption) | assumption)
            have q237 : x9_1 < (l0_4.length : Int) := of_decide_eq_true (by first | (with_reducible assumption) | assumption)
            obtain ⟨ad237, A237_2, c237_2, A237_3, c237_3, A237_4, c237_4, e237, hx237_0, hx237_1, hx237_2, hx237_3, hx237_4, hl237_2, hi237_2, hl237_3, hi237_3, hl237_4, hi237_4⟩ := at_T42 HR0_4.out x9_1 p237 q237
            cases e237
            replace hx237_0 := (HB.out.cell (World.block_lt_of_cell? w _ hx237_0)).trans hx237_0
            replace hx237_1 := (HB.out.cell (World.block_lt_of_cell? w _ hx237_1)).trans hx237_1
            replace hx237_2 := (HB.out.cell (World.block_lt_of_cell? w _ hx237_2)).trans hx237_2
            replace hx237_3 := (HB.out.cell (World.block_lt_of_cell? w _ hx237_3)).trans hx237_3
            replace hx237_4 := (HB.out.cell (World.block_lt_of_cell? w _ hx237_4)).trans hx237_4
            have HR237_2 := Aside0.mk hi237_2
            have HC237_2 := Aside0.mk hl237_2
            clear hi237_2 hl237_2
            have HR237_3 := Aside0.mk hi237_3
            have HC237_3 := Aside0.mk hl237_3
            clear hi237_3 hl237_3
            have HR237_4 := Aside0.mk hi237_4
            have HC237_4 := Aside0.mk hl237_4
            clear hi237_4 hl237_4
            replace p237 := eq_true p237
            replace q237 := eq_true q237
            go_wp2_with (first | ((with_reducible refine gate_dst (N := 5) rfl ?_); refine box_event ?hg (N := 5) ?hd (cs := #[.bool false, .bool false, .slice none 0 0, .slice none 0 0, .slice none 0 0]) (t := 42) ?hr ?_; (case hd => rfl); (case hg => rfl); (case hr => first | (go_simp; done) | (go_simp; rfl)); intro gb238 hg w8 hbox hb; have n0_ := Aside0.mk (blk_below (g := gb236) (o := .cells #[.bool a0_0, .bool a0_1, .slice A0_2 l0_2.length c0_2, .slice A0_3 l0_3.length c0_3, .slice (some ad237) l0_4.length c0_4] 42 (0, 0)) (by (with_reducible repeat (first | refine blk_drewN ?_ _ | refine blk_drew ?_ | refine blk_alloc ?_ _)); exact BK236.out) hb); have n1_ := Aside0.mk (below_step (by repeat (first | (with_reducible first | exact HB.out | apply below_alloc | apply pw_below_drewN | apply below_drew1 | refine below_set ?_ GE236.out) | exact HB.out)) hb); have n2_ := Aside0.mk (hbox); have n3_ := Aside0.mk ((by rw [hg]; exact (below_size (by repeat (first | (with_reducible first | exact HB.out | apply below_alloc | apply pw_below_drewN | apply below_drew1 | refine below_set ?_ GE236.out) | exact HB.out))) : w.heap.size ≤ gb238)); have n4_ := Aside0.mk ((by rw [hg]; exact (below_size (by repeat (first | (with_reducible first | exact HB.out | apply below_alloc | apply pw_below_drewN | apply below_drew1 | refine below_set ?_ GE236.out) | exact HB.out))) : w.heap.size ≤ gb238)); have n5_ := Aside0.mk ((by rw [hg]; exact Nat.ne_of_lt (blk_lt (g := gb236) (o := .cells #[.bool a0_0, .bool a0_1, .slice A0_2 l0_2.length c0_2, .slice A0_3 l0_3.length c0_3, .slice (some ad237) l0_4.length c0_4] 42 (0, 0)) (by (with_reducible repeat (first | refine blk_drewN ?_ _ | refine blk_drew ?_ | refine blk_alloc ?_ _)); exact BK236.out)) : gb236 ≠ gb238)); have n6_ := Aside0.mk ((by rw [hg]; exact Nat.ne_of_gt (blk_lt (g := gb236) (o := .cells #[.bool a0_0, .bool a0_1, .slice A0_2 l0_2.length c0_2, .slice A0_3 l0_3.length c0_3, .slice (some ad237) l0_4.length c0_4] 42 (0, 0)) (by (with_reducible repeat (first | refine blk_drewN ?_ _ | refine blk_drew ?_ | refine blk_alloc ?_ _)); exact BK236.out)) : gb238 ≠ gb236)); clear BK236; clear HB; have BK236 := n0_; have HB := n1_; have BK238 := n2_; have GW238 := n3_; have GE238 := n4_; have NB236_238 := n5_; have NB238_236 := n6_; clear n0_ n1_ n2_ n3_ n4_ n5_ n6_; clear hb hbox hg; have hnb9 := NB238_236.out; have hnc9 := NB236_238.out; have hcz10_0 : w8.cell? ⟨gb238, 0, none⟩ = some (.bool false) := (blk_cell BK238.out 0).trans rfl; have hcz10_1 : w8.cell? ⟨gb238, 1, none⟩ = some (.bool false) := (blk_cell BK238.out 1).trans rfl; have hcz10_2 : w8.cell? ⟨gb238, 2, none⟩ = some (.slice none 0 0) := (blk_cell BK238.out 2).trans rfl; have hcz10_3 : w8.cell? ⟨gb238, 3, none⟩ = some (.slice none 0 0) := (blk_cell BK238.out 3).trans rfl; have hcz10_4 : w8.cell? ⟨gb238, 4, none⟩ = some (.slice none 0 0) := (blk_cell BK238.out 4).trans rfl; have hfz10_0 := blk_frozen BK238.out 0; have hfz10_1 := blk_frozen BK238.out 1; have hfz10_2 := blk_frozen BK238.out 2; have hfz10_3 := blk_frozen BK238.out 3; have hfz10_4 := blk_frozen BK238.out 4) | ((with_reducible refine gate_callee (f := 31) rfl ?_); refine goesL_ (some 15) rfl rfl Tryz.func31 (by kernel_rfl) rfl #[.agg #[.bool ((rd_T42 l0_4 x9_1).f0), .bool ((rd_T42 l0_4 x9_1).f1), .slice A237_2 ((rd_T42 l0_4 x9_1).f2).length c237_2, .slice A237_3 ((rd_T42 l0_4 x9_1).f3).length c237_3, .slice A237_4 ((rd_T42 l0_4 x9_1).f4).length c237_4]] rfl (by (try simp only [List.map_toArray, List.map_cons, List.map_nil]); first | done | rfl | (simp only [List.length_drop, List.length_take]; rfl)) ?_; (with_reducible refine (ih k1 (by have := HK1.out; omega) ((rd_T42 l0_4 x9_1).f0) ((rd_T42 l0_4 x9_1).f1) _ _ ((rd_T42 l0_4 x9_1).f2) _ _ ((rd_T42 l0_4 x9_1).f3) _ _ ((rd_T42 l0_4 x9_1).f4) t239 _ ?side1 ?side2 ?side3 ?side4 ?side5 ?side6 A7.out).mono ?_); (case side1 => exact Kd.C_below HR237_2.out (by repeat (first | (with_reducible first | exact HB.out | apply below_alloc | apply pw_below_drewN | apply below_drew1 | refine below_set ?_ GE236.out | refine below_set ?_ GE238.out) | exact HB.out))); (case side2 => exact HC237_2.out); (case side3 => exact Kd.C_below HR237_3.out (by repeat (first | (with_reducible first | exact HB.out | apply below_alloc | apply pw_below_drewN | apply below_drew1 | refine below_set ?_ GE236.out | refine below_set ?_ GE238.out) | exact HB.out))); (case side4 => exact HC237_3.out); (case side5 => exact Kd.C_below HR237_4.out (by repeat (first | (with_reducible first | exact HB.out | apply below_alloc | apply pw_below_drewN | apply below_drew1 | refine below_set ?_ GE236.out | refine below_set ?_ GE238.out) | exact HB.out))); (case side6 => exact HC237_4.out); rintro e w11 ⟨rfl, hb⟩; refine ⟨_, rfl, ?_⟩; have n0_ := Aside0.mk (blk_below (g := gb236) (o := .cells #[.bool a0_0, .bool a0_1, .slice A0_2 l0_2.length c0_2, .slice A0_3 l0_3.length c0_3, .slice (some ad237) l0_4.length c0_4] 42 (0, 0)) (by (with_reducible repeat (first | refine blk_drewN ?_ _ | refine blk_drew ?_ | refine blk_alloc ?_ _)); refine blk_far ?_ NB236_238.out _; (with_reducible repeat (first | refine blk_drewN ?_ _ | refine blk_drew ?_ | refine blk_alloc ?_ _)); refine blk_far ?_ NB236_238.out _; (with_reducible repeat (first | refine blk_drewN ?_ _ | refine blk_drew ?_ | refine blk_alloc ?_ _)); refine blk_far ?_ NB236_238.out _; (with_reducible repeat (first | refine blk_drewN ?_ _ | refine blk_drew ?_ | refine blk_alloc ?_ _)); refine blk_far ?_ NB236_238.out _; (with_reducible repeat (first | refine blk_drewN ?_ _ | refine blk_drew ?_ | refine blk_alloc ?_ _)); refine blk_far ?_ NB236_238.out _; (with_reducible repeat (first | refine blk_drewN ?_ _ | refine blk_drew ?_ | refine blk_alloc ?_ _)); exact BK236.out) hb); have n1_ := Aside0.mk (blk_below (g := gb238) (o := .cells #[.bool ((rd_T42 l0_4 x9_1).f0), .bool ((rd_T42 l0_4 x9_1).f1), .slice A237_2 ((rd_T42 l0_4 x9_1).f2).length c237_2, .slice A237_3 ((rd_T42 l0_4 x9_1).f3).length c237_3, .slice A237_4 ((rd_T42 l0_4 x9_1).f4).length c237_4] 42 (0, 0)) (by (with_reducible repeat (first | refine blk_drewN ?_ _ | refine blk_drew ?_ | refine blk_alloc ?_ _)); refine blk_put (cs := #[.bool ((rd_T42 l0_4 x9_1).f0), .bool ((rd_T42 l0_4 x9_1).f1), .slice A237_2 ((rd_T42 l0_4 x9_1).f2).length c237_2, .slice A237_3 ((rd_T42 l0_4 x9_1).f3).length c237_3, .slice none 0 0]) ?_ 4 _ rfl; (with_reducible repeat (first | refine blk_drewN ?_ _ | refine blk_drew ?_ | refine blk_alloc ?_ _)); refine blk_put (cs := #[.bool ((rd_T42 l0_4 x9_1).f0), .bool ((rd_T42 l0_4 x9_1).f1), .slice A237_2 ((rd_T42 l0_4 x9_1).f2).length c237_2, .slice none 0 0, .slice none 0 0]) ?_ 3 _ rfl; (with_reducible repeat (first | refine blk_drewN ?_ _ | refine blk_drew ?_ | refine blk_alloc ?_ _)); refine blk_put (cs := #[.bool ((rd_T42 l0_4 x9_1).f0), .bool ((rd_T42 l0_4 x9_1).f1), .slice none 0 0, .slice none 0 0, .slice none 0 0]) ?_ 2 _ rfl; (with_reducible repeat (first | refine blk_drewN ?_ _ | refine blk_drew ?_ | refine blk_alloc ?_ _)); refine blk_put (cs := #[.bool ((rd_T42 l0_4 x9_1).f0), .bool false, .slice none 0 0, .slice none 0 0, .slice none 0 0]) ?_ 1 _ rfl; (with_reducible repeat (first | refine blk_drewN ?_ _ | refine blk_drew ?_ | refine blk_alloc ?_ _)); refine blk_put (cs := #[.bool false, .bool false, .slice none 0 0, .slice none 0 0, .slice none 0 0]) ?_ 0 _ rfl; (with_reducible repeat (first | refine blk_drewN ?_ _ | refine blk_drew ?_ | refine blk_alloc ?_ _)); exact BK238.out) hb); have n2_ := Aside0.mk (below_step (by repeat (first | (with_reducible first | exact HB.out | apply below_alloc | apply pw_below_drewN | apply below_drew1 | refine below_set ?_ GE236.out | refine below_set ?_ GE238.out) | exact HB.out)) hb); clear BK236; clear BK238; clear HB; have BK236 := n0_; have BK238 := n1_; have HB := n2_; clear n0_ n1_ n2_; (try clear hb); (try clear hb2); (try clear hk); (try clear hi)))
            go_roundg k1
            case measure => have := HK1.out; omega
            case rel => exact ⟨(wrap64 (x3_1 + t239)), (wrap64 (x9_1 + 1)), (by first | rfl | (simp; done) | (simp [*]; done)), (by first | rfl | (simp; done) | (simp [*]; done)), H', ⟨by have := HK1.out; omega⟩, ⟨by (with_reducible repeat (first | refine blk_drewN ?_ _ | refine blk_drew ?_ | refine blk_alloc ?_ _)); exact BK236.out⟩, ⟨by repeat (first | (with_reducible first | exact HB.out | apply below_alloc | apply pw_below_drewN | apply below_drew1 | refine below_set ?_ GE236.out | refine below_set ?_ GE238.out) | exact HB.out)⟩⟩
          · rw [if_neg c6] at H
            exact absurd H (by simp)
        · rw [if_neg c5] at H
          exact absurd H (by simp)
      · rw [if_neg c4] at H
        have c4b0 : decide (x9_1 < (l0_4.length : Int)) = false := decide_eq_false c4
        clear c4
        obtain rfl := Option.some.inj H
        go_wp2
        go_ret
        exact ⟨by first | rfl | (simp [errW_none, errW_some] <;> rfl) | (simp [*, errW_none, errW_some] <;> rfl), by repeat (first | (with_reducible first | exact HB.out | apply below_alloc | apply pw_below_drewN | apply below_drew1 | refine below_set ?_ GE236.out) | exact HB.out)⟩
def ref_Ref_Place.f (a0 : Int) : Option (Int) := some (wrap64 ((Go.bits .and .i64 a0 1099511627775) - 1))
set_option maxHeartbeats 8000000 in
set_option maxRecDepth 100000 in
theorem ref_Ref_Place.calls (a0 : Int) (r : Int) (w : World) (h : ref_Ref_Place.f a0 = some r) :
    Calls Tryz.prog 110 #[.int .i64 a0] w fun e w' => e = .returned (.int .i64 r) ∧ Drawn0 w w' := by
  have H : (some (wrap64 ((Go.bits .and .i64 a0 1099511627775) - 1))) = some r := h
  clear h
  obtain rfl := Option.some.inj H
  go_enter Tryz.func110, Tryz.ntmps110
  go_wp2
  go_ret
  exact ⟨by first | rfl | (simp; done) | (simp [*]; done), by repeat (first | exact Drawn0.refl _ | apply Drawn0.step)⟩
end Go.Proofs.YthlmgbdknjilpaaGreat.PAskKinds
