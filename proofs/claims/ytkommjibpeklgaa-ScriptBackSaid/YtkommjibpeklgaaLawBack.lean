/- For all entries and every cut the law ScriptBack answers true: what was written is read again; cut anywhere, it is the first ones, and one is passed over at most. -/
import Derived.Test.YtkommjibpeklgaaRows
import Derived.Test.YtkommjibpeklgaaCutScriptBack
import Derived.Test.YtkommjibpeklgaaArgsScriptBack
import Derived.WalkKit
import Derived.ProofKit
import Derived.OpenShut
import Derived.ShutString
import Derived.ChangeOld
import Derived.Below
import Derived.SizedLaws
import Derived.Deep.QuietTactic
import Derived.BigQuiet
namespace Go.Proofs.Ytkommjibpeklgaa.PScriptBack
open Go.RowKit Go.Proofs.YtkommjibpeklgaaW.PrintWords Go.Proofs.YtkommjibpeklgaaW.PrintLast Go.Proofs.YtkommjibpeklgaaW.PrintMore
attribute [local go_sem] max2_int min2_int max_two min_two max_three min_three max_four min_four
set_option linter.unusedVariables false
set_option linter.unusedSimpArgs false

set_option maxHeartbeats 2000000 in
set_option maxRecDepth 100000 in
theorem back_long (k : Nat) (A0 : Option Addr) (c0 : Nat) (l0 : List S27) (cut : Int) (w : World) (ha : boscagelaw24_Awake.f k = some true) (hl : 40 < l0.length) :
    Calls Try.prog 7 #[.slice A0 l0.length c0, .int .u16 cut] w fun e w' => e = .returned (.bool true) ∧ Below w.heap.size w w' := by
  have HA := Aside0.mk ha
  clear ha
  have HB := Aside0.mk (Below.refl w.heap.size w)
  have h1 : decide (40 < (l0.length : Int)) = true := decide_eq_true (by omega)
  have h2 : decide (40 < l0.length) = true := decide_eq_true hl
  clear hl
  go_enter Try.func7, Try.ntmps7
  go_wp2_with (first | ((with_reducible refine gate_callee (f := 9) rfl ?_); refine goesL_ (some 9) rfl rfl Try.func9 (by kernel_rfl) rfl #[] rfl (by (try simp only [List.map_toArray, List.map_cons, List.map_nil]); first | done | rfl | (simp only [List.length_drop, List.length_take]; rfl)) ?_; (with_reducible refine (boscagelaw24_Awake.calls k true _ HA.out).mono ?_); rintro e w2 ⟨rfl, hb⟩; refine ⟨_, rfl, ?_⟩; have n1_ := Aside0.mk (below_step (by repeat (first | (with_reducible first | exact HB.out | apply below_alloc | apply pw_below_drewN | apply below_drew1) | exact HB.out)) hb); clear HB ; have HB := n1_; clear n1_ hb))
  go_ret
  exact ⟨rfl, by repeat (first | (with_reducible first | exact HB.out | apply below_alloc | apply pw_below_drewN | apply below_drew1) | exact HB.out)⟩

theorem hi5 : Try.prog.info? 5 = some ((Try.prog.info? 5).get (by kernel_rfl)) := by kernel_rfl
theorem hi27 : Try.prog.info? 27 = some ((Try.prog.info? 27).get (by kernel_rfl)) := by kernel_rfl

theorem decode_at (k : Nat) (A : Option Addr) (c : Nat) (l : List Int) (j : Nat) (r1 : List S27) (r2 : Int) (w : World) (hl : l.length = j) (hr0 : Kd.C (Kd.int .u8) w A l.length l) (hc0 : j ≤ c) (h : decL k [] 0 l 0 = some (r1, r2)) :
    Calls Try.prog 16 #[.slice A j c] w fun e w' => ∃ v0_ : Value, e = .returned (.tuple #[v0_, .int .i64 r2]) ∧ Kd.R k27 27 w' w.heap.size (fun _ => True) v0_ r1 ∧ Below w.heap.size w w' := by
  subst hl
  exact decode_calls k A c l r1 r2 w hr0 hc0 h

theorem same_at (k : Nat) (A0 : Option Addr) (c0 : Nat) (l0 : List (S27)) (A1 : Option Addr) (c1 : Nat) (l1 : List (S27)) (j : Nat) (r : Bool) (w : World) (hl : l1.length = j) (hr0 : Kd.C k27 w A0 l0.length l0) (hc0 : l0.length ≤ c0) (hr1 : Kd.C k27 w A1 l1.length l1) (hc1 : j ≤ c1) (h : boscagelaw24_Same.f k l0 l1 = some r) :
    Calls Try.prog 18 #[.slice A0 l0.length c0, .slice A1 j c1] w fun e w' => e = .returned (.bool r) ∧ Drawn0 w w' := by
  subst hl
  exact boscagelaw24_Same.calls k A0 c0 l0 A1 c1 l1 r w hr0 hc0 hr1 hc1 h

theorem same_q (k : Nat) (A0 : Option Addr) (c0 : Nat) (l0 : List (S27)) (A1 : Option Addr) (c1 : Nat) (l1 : List (S27)) (j : Nat) (r : Bool) (w : World) (n : Nat) (hl : l1.length = j) (hr0 : Kd.C k27 w A0 l0.length l0) (hc0 : l0.length ≤ c0) (hr1 : Kd.C k27 w A1 l1.length l1) (hc1 : j ≤ c1) (h : boscagelaw24_Same.f k l0 l1 = some r) :
    Calls Try.prog 18 #[.slice A0 l0.length c0, .slice A1 j c1] (w.drewN n) fun e w' => e = .returned (.bool r) ∧ ∃ m, w' = (w.drewN n).drewN m :=
  (same_at k A0 c0 l0 A1 c1 l1 j r (w.drewN n) hl (Kd.C_drewN hr0 n) hc0 (Kd.C_drewN hr1 n) hc1 h).mono fun _ _ ⟨he, hd⟩ => ⟨he, hd.out⟩

set_option maxHeartbeats 2000000 in
set_option maxRecDepth 100000 in
theorem back_short (k : Nat) (A0 : Option Addr) (c0 : Nat) (l0 L : List S27) (cut : Int) (cs : List Int) (fs : List S27) (bad : Int) (w : World) (hr0 : Kd.C k27 w A0 l0.length l0) (hc0 : l0.length ≤ c0) (ha : boscagelaw24_Awake.f k = some true) (hl : ¬ 40 < l0.length)
    (hp : boscagelaw24_plain.f k l0 = some L) (he : script_Encode.f k L = some cs) (hd : decL k [] 0 cs 0 = some (L, 0)) (hs : boscagelaw24_Same.f k L L = some true) (hn : cs.length < 1000000) (hcut : 0 ≤ cut) (hcut2 : cut ≤ 65535) (j : Nat) (hj : cut % wrap64 ((cs.length : Int) + 1) = (j : Int)) (hjl : j ≤ cs.length)
    (hd2 : decL k [] 0 (cs.take j) 0 = some (fs, bad)) (hf : fs = L.take fs.length) (hf0 : fs.length ≤ L.length) (hs2 : boscagelaw24_Same.f k fs (L.take fs.length) = some true) (hb1 : bad ≤ 1) (hb2 : fs.length < L.length ∨ bad = 0) (hL : L.length ≤ 40) :
    Calls Try.prog 7 #[.slice A0 l0.length c0, .int .u16 cut] w fun e w' => e = .returned (.bool true) ∧ Below w.heap.size w w' := by
  have hu27 := Try.underlying27
  have hu25 := Try.underlying25
  have HA := Aside0.mk ha
  have HP := Aside0.mk hp
  have HE := Aside0.mk he
  have HD := Aside0.mk hd
  have HSA := Aside0.mk hs
  have HN := Aside0.mk hn
  have HD2 := Aside0.mk hd2
  have HF := Aside0.mk hf
  have HF0 := Aside0.mk hf0
  have HSB := Aside0.mk hs2
  have HB1 := Aside0.mk hb1
  have HB2 := Aside0.mk hb2
  have HLL := Aside0.mk hL
  have HC := Aside0.mk hr0
  have HC0 := Aside0.mk hc0
  have HJ := Aside0.mk hj
  have HJL := Aside0.mk hjl
  clear ha hp he hd hs hn hd2 hf hf0 hs2 hb1 hb2 hL hr0 hc0 hj hjl
  have HB := Aside0.mk (Below.refl w.heap.size w)
  have h1 : decide (40 < (l0.length : Int)) = false := decide_eq_false (by omega)
  have h2 : decide (40 < l0.length) = false := decide_eq_false hl
  clear hl
  go_enter Try.func7, Try.ntmps7
  go_upto_region 8 with (first | ((with_reducible refine gate_callee (f := 9) rfl ?_); refine goesL_ (some 9) rfl rfl Try.func9 (by kernel_rfl) rfl #[] rfl (by (try simp only [List.map_toArray, List.map_cons, List.map_nil]); first | done | rfl | (simp only [List.length_drop, List.length_take]; rfl)) ?_; (with_reducible refine (boscagelaw24_Awake.calls k true _ HA.out).mono ?_); rintro e w2 ⟨rfl, hb⟩; refine ⟨_, rfl, ?_⟩; have n1_ := Aside0.mk (below_step (by repeat (first | (with_reducible first | exact HB.out | apply below_alloc | apply pw_below_drewN | apply below_drew1) | exact HB.out)) hb); clear HB ; have HB := n1_; clear n1_ hb) | ((with_reducible refine gate_callee (f := 12) rfl ?_); refine goesL_ (some 15) rfl rfl Try.func12 (by kernel_rfl) rfl #[.slice A0 l0.length c0] rfl (by (try simp only [List.map_toArray, List.map_cons, List.map_nil]); first | done | rfl | (simp only [List.length_drop, List.length_take]; rfl)) ?_; (with_reducible refine (boscagelaw24_plain.calls k A0 c0 l0 L _ ?sideC ?sideL HP.out).mono ?_); (case sideC => exact Kd.C_below HC.out (by repeat (first | (with_reducible first | exact HB.out | apply below_alloc | apply pw_below_drewN | apply below_drew1) | exact HB.out))); (case sideL => exact HC0.out); rintro e w2 ⟨v0_, rfl, ho, hb⟩; refine ⟨_, rfl, ?_⟩; have HL := Aside0.mk (Kd.R_lower ho (below_size (by repeat (first | (with_reducible first | exact HB.out | apply below_alloc | apply pw_below_drewN | apply below_drew1) | exact HB.out)))); have n1_ := Aside0.mk (below_step (by repeat (first | (with_reducible first | exact HB.out | apply below_alloc | apply pw_below_drewN | apply below_drew1) | exact HB.out)) hb); clear HB ; have HB := n1_; clear n1_ hb; clear ho; obtain ⟨Al, cl, el⟩ := Kd.R_slice HL.out; subst el) | ((with_reducible refine gate_callee (f := 14) rfl ?_); refine goesL_ (some 17) rfl rfl Try.func14 (by kernel_rfl) rfl #[.slice Al L.length cl] rfl (by (try simp only [List.map_toArray, List.map_cons, List.map_nil]); first | done | rfl | (simp only [List.length_drop, List.length_take]; rfl)) ?_; (with_reducible refine (script_Encode.calls k Al cl L cs _ ?sideC ?sideL HE.out).mono ?_); (case sideC => exact (Kd.R_reads' HL.out).2.2); (case sideL => exact (Kd.R_reads' HL.out).2.1); rintro e w2 ⟨v0_, rfl, ho, hb⟩; refine ⟨_, rfl, ?_⟩; have HS := Aside0.mk (Kd.R_lower ho (below_size (by repeat (first | (with_reducible first | exact HB.out | apply below_alloc | apply pw_below_drewN | apply below_drew1) | exact HB.out)))); have mHL_ := Aside0.mk (Kd.R_below (by ((with_reducible repeat (first | apply Kd.R_alloc | apply Kd.R_drewN | apply Kd.R_drew)); exact HL.out)) hb); have n1_ := Aside0.mk (below_step (by repeat (first | (with_reducible first | exact HB.out | apply below_alloc | apply pw_below_drewN | apply below_drew1) | exact HB.out)) hb); clear HB HL; have HB := n1_; clear n1_ hb; have HL := mHL_; clear mHL_; clear ho; obtain ⟨Ap, cp, ep⟩ := Kd.R_slice HS.out; subst ep) | ((with_reducible refine gate_callee (f := 16) rfl ?_); refine goesL_ (some 20) rfl rfl Try.func16 (by kernel_rfl) rfl #[.slice Ap cs.length cp] rfl (by (try simp only [List.map_toArray, List.map_cons, List.map_nil]); first | done | rfl | (simp only [List.length_drop, List.length_take]; rfl)) ?_; (with_reducible refine (decode_calls k Ap cp cs L 0 _ ?sideC ?sideL HD.out).mono ?_); (case sideC => exact (Kd.R_reads' HS.out).2.2); (case sideL => exact (Kd.R_reads' HS.out).2.1); rintro e w2 ⟨v0_, rfl, ho, hb⟩; refine ⟨_, rfl, ?_⟩; have HQ := Aside0.mk (Kd.R_lower ho (below_size (by repeat (first | (with_reducible first | exact HB.out | apply below_alloc | apply pw_below_drewN | apply below_drew1) | exact HB.out)))); have mHL_ := Aside0.mk (Kd.R_below (by ((with_reducible repeat (first | apply Kd.R_alloc | apply Kd.R_drewN | apply Kd.R_drew)); exact HL.out)) hb); have mHS_ := Aside0.mk (Kd.R_below (by ((with_reducible repeat (first | apply Kd.R_alloc | apply Kd.R_drewN | apply Kd.R_drew)); exact HS.out)) hb); have n1_ := Aside0.mk (below_step (by repeat (first | (with_reducible first | exact HB.out | apply below_alloc | apply pw_below_drewN | apply below_drew1) | exact HB.out)) hb); clear HB HL HS; have HB := n1_; clear n1_ hb; have HL := mHL_; clear mHL_; have HS := mHS_; clear mHS_; clear ho; obtain ⟨Aq, cq, eq_⟩ := Kd.R_slice HQ.out; subst eq_))

  go_upto_region 10 with (first | ((with_reducible refine gate_callee (f := 18) rfl ?_); refine goesL_ (some 25) rfl rfl Try.func18 (by kernel_rfl) rfl #[.slice Aq L.length cq, .slice Al L.length cl] rfl (by (try simp only [List.map_toArray, List.map_cons, List.map_nil]); first | done | rfl | (simp only [List.length_drop, List.length_take]; rfl)) ?_; (with_reducible refine (boscagelaw24_Same.calls k Aq cq L Al cl L true _ ?side1 ?side2 ?side3 ?side4 HSA.out).mono ?_); (case side1 => exact (Kd.R_reads' HQ.out).2.2); (case side2 => exact (Kd.R_reads' HQ.out).2.1); (case side3 => exact (Kd.R_reads' HL.out).2.2); (case side4 => exact (Kd.R_reads' HL.out).2.1); rintro e w2 ⟨rfl, ⟨nd, rfl⟩⟩; refine ⟨_, rfl, ?_⟩; skip))
  have hj := HJ.out
  have hnz : ¬ (wrap64 ((cs.length : Int) + 1) = 0) := by have := HN.out; unfold wrap64; omega
  have hcut1 := cut_to (P := Try.prog) 33 5 .i64 Try.underlying33 hi5 Ap cs.length cp (j : Int) (by omega) (by have := HJL.out; omega) (Kd.R_reads' HS.out).2.1
  rw [Int.toNat_natCast] at hcut1
  go_upto_region 11 with (first | ((with_reducible refine gate_callee (f := 16) rfl ?_); refine goesL_ (some 40) rfl rfl Try.func16 (by kernel_rfl) rfl #[.slice Ap j cp] rfl (by (try simp only [List.map_toArray, List.map_cons, List.map_nil]); first | done | rfl | (simp only [List.length_drop, List.length_take]; rfl)) ?_; (with_reducible refine (decode_at k Ap cp (cs.take j) j fs bad _ ?len2 ?sideC ?sideL HD2.out).mono ?_); (case len2 => have h_ := HJL.out; rw [List.length_take]; omega); (case sideC => exact Kd.C_take (Kd.R_reads' HS.out).2.2 HJL.out); (case sideL => have h_ := HJL.out; have h2_ := (Kd.R_reads' HS.out).2.1; omega); rintro e w2 ⟨v0_, rfl, ho, hb⟩; refine ⟨_, rfl, ?_⟩; have HZ := Aside0.mk (Kd.R_lower ho (below_size (by repeat (first | (with_reducible first | exact HB.out | apply below_alloc | apply pw_below_drewN | apply below_drew1) | exact HB.out)))); have mHL_ := Aside0.mk (Kd.R_below (by ((with_reducible repeat (first | apply Kd.R_alloc | apply Kd.R_drewN | apply Kd.R_drew)); exact HL.out)) hb); have n1_ := Aside0.mk (below_step (by repeat (first | (with_reducible first | exact HB.out | apply below_alloc | apply pw_below_drewN | apply below_drew1) | exact HB.out)) hb); clear HB HL; have HB := n1_; clear n1_ hb; have HL := mHL_; clear mHL_; clear ho; obtain ⟨Az, cz, ez⟩ := Kd.R_slice HZ.out; subst ez))
  clear hj hnz hcut1 hcut hcut2
  have hcut2 := cut_to (P := Try.prog) 30 27 .i64 Try.underlying30 hi27 Al L.length cl (fs.length : Int) (by omega) (by have := HF0.out; omega) (Kd.R_reads' HL.out).2.1
  rw [Int.toNat_natCast] at hcut2
  have g1 : decide ((fs.length : Int) ≤ (L.length : Int)) = true := decide_eq_true (by have := HF0.out; omega)
  have g1' : decide (fs.length ≤ L.length) = true := decide_eq_true HF0.out
  have g2 : decide (bad ≤ 1) = true := decide_eq_true HB1.out
  by_cases hlt : fs.length < L.length
  · have g3 : decide ((fs.length : Int) < (L.length : Int)) = true := decide_eq_true (by omega)
    have g3' : decide (fs.length < L.length) = true := decide_eq_true hlt
    clear hlt
    go_wp2_with (first | (go_at_call 18; refine (same_at k Az cz fs Al cl (L.take fs.length) fs.length true _ (by have h_ := HF0.out; rw [List.length_take]; omega) (Kd.R_reads' HZ.out).2.2 (Kd.R_reads' HZ.out).2.1 (Kd.C_take (Kd.R_reads' HL.out).2.2 HF0.out) (by have h_ := HF0.out; have h2_ := (Kd.R_reads' HL.out).2.1; omega) HSB.out).mono ?_; rintro e w2 ⟨rfl, ⟨nd, rfl⟩⟩))
    go_ret
    exact ⟨rfl, by repeat (first | (with_reducible first | exact HB.out | apply below_alloc | apply pw_below_drewN | apply below_drew1) | exact HB.out)⟩
  · have g3 : decide ((fs.length : Int) < (L.length : Int)) = false := decide_eq_false (by omega)
    have g3' : decide (fs.length < L.length) = false := decide_eq_false hlt
    have g4 : (bad == 0) = true := beq_iff_eq.mpr (HB2.out.resolve_left hlt)
    clear hlt
    go_wp2_with (first | (go_at_call 18; refine (same_at k Az cz fs Al cl (L.take fs.length) fs.length true _ (by have h_ := HF0.out; rw [List.length_take]; omega) (Kd.R_reads' HZ.out).2.2 (Kd.R_reads' HZ.out).2.1 (Kd.C_take (Kd.R_reads' HL.out).2.2 HF0.out) (by have h_ := HF0.out; have h2_ := (Kd.R_reads' HL.out).2.1; omega) HSB.out).mono ?_; rintro e w2 ⟨rfl, ⟨nd, rfl⟩⟩))
    go_ret
    exact ⟨rfl, by repeat (first | (with_reducible first | exact HB.out | apply below_alloc | apply pw_below_drewN | apply below_drew1) | exact HB.out)⟩
end Go.Proofs.Ytkommjibpeklgaa.PScriptBack

namespace Go.Proofs.Ytkommjibpeklgaa.scriptBack
open Go.ChangeShapes Go.WideShapes Go.ChangeAt Go.RowKit Go.Proofs.Ytkommjibpeklgaa.PScriptBack Go.Proofs.Ytkommjibpeklgaa.Pure.EncScriptBack Go.Proofs.Ytkommjibpeklgaa.ArgsPScriptBack
open Go.ChangeMaps (open_string shut_string)
open Go.Proofs.YtkommjibpeklgaaW.PrintWords (Kd ReadsInt.ofRowC Kd.C_of_reads)
set_option linter.unusedVariables false

theorem rng64 {a : Int} (h : (Lit.int .i64 a).wf = true) : -9223372036854775808 ≤ a ∧ a ≤ 9223372036854775807 := by
  simpa [Lit.wf, IntKind.min, IntKind.max, IntKind.bits, IntKind.signed] using h
theorem rng8 {a : Int} (h : (Lit.int .u8 a).wf = true) : 0 ≤ a ∧ a ≤ 255 := by
  simpa [Lit.wf, IntKind.min, IntKind.max, IntKind.bits, IntKind.signed] using h
theorem rng16 {a : Int} (h : (Lit.int .u16 a).wf = true) : 0 ≤ a ∧ a ≤ 65535 := by
  simpa [Lit.wf, IntKind.min, IntKind.max, IntKind.bits, IntKind.signed] using h

theorem holds (A0 : Option Addr) (c0 : Nat) (l0 : List S27) (cut : Int) (w : World) (hr0 : Kd.C k27 w A0 l0.length l0) (hc0 : l0.length ≤ c0) (hF : ∀ s ∈ l0, Fits s) (hu : 0 ≤ cut ∧ cut ≤ 65535) :
    Calls Try.prog 7 #[.slice A0 l0.length c0, .int .u16 cut] w fun e w' => e = .returned (.bool true) ∧ Below w.heap.size w w' := by
  have ha := awakes 20000 (by omega)
  by_cases hl : 40 < l0.length
  · exact back_long 20000 A0 c0 l0 cut w ha hl
  · have hG : ∀ s ∈ l0.map pl, Go.Proofs.Ytkommjibpeklgaa.Pure.EncScriptBack.Good s := fun s hs => by
      obtain ⟨t, ht, rfl⟩ := List.mem_map.mp hs
      have f := hF t ht
      exact pl_good t ⟨(rng8 f.1).1, (rng8 f.2.1).1, (rng8 f.2.2.1).1⟩ (rng64 f.2.2.2.1) (rng64 f.2.2.2.2.1) (rng64 f.2.2.2.2.2)
    obtain ⟨L, hL⟩ : ∃ L, L = l0.map pl := ⟨_, rfl⟩
    rw [← hL] at hG
    have hLl : L.length = l0.length := by rw [hL]; simp
    have hw := wrote_bytes hG
    have hwl := wrote_len L
    have hp := boscagelaw24_plain.eq 20000 l0 (by omega) (fun s hs => (rng8 (hF s hs).2.2.1).1)
    rw [← hL] at hp
    have hd := decode_eq 20000 (wrote L) (by omega) (by omega) hw
    rw [back L hG] at hd
    have hj : cut % wrap64 (((wrote L).length : Int) + 1) = ((cut % (((wrote L).length : Int) + 1)).toNat : Int) := by
      have e : wrap64 (((wrote L).length : Int) + 1) = ((wrote L).length : Int) + 1 := by unfold wrap64; omega
      have h1 := Int.emod_nonneg cut (b := ((wrote L).length : Int) + 1) (by omega)
      rw [e]; omega
    obtain ⟨j, hjj⟩ : ∃ j, j = (cut % (((wrote L).length : Int) + 1)).toNat := ⟨_, rfl⟩
    rw [← hjj] at hj
    have hjl : j ≤ (wrote L).length := by
      have h1 := Int.emod_lt_of_pos cut (b := ((wrote L).length : Int) + 1) (by omega)
      omega
    have htl : ((wrote L).take j).length = j := by rw [List.length_take]; omega
    obtain ⟨m, bad, h1, h2, h3, h4, h5⟩ := dec_cut L j j hG hjl (by omega)
    have hd2 := decode_eq 20000 ((wrote L).take j) (by omega) (by omega) (fun c hc => hw c (List.mem_of_mem_take hc))
    rw [htl, h1] at hd2
    have hml : (L.take m).length = m := by rw [List.length_take]; omega
    refine back_short 20000 A0 c0 l0 L cut (wrote L) (L.take m) bad w hr0 hc0 ha hl hp (encode_eq _ L (fun s hs => (hG s hs).k0) (by omega) (by omega)) hd (same_refl _ L (by omega) (by omega)) (by omega) hu.1 hu.2 j hj hjl hd2 (by rw [hml]) (by rw [hml]; exact h2) ?_ h4 (by rw [hml]; exact h5) (by omega)
    rw [hml]
    exact same_refl _ (L.take m) (by omega) (by omega)

theorem own : ownKnob Try.prog.godebug = none := by kernel_rfl
theorem laidOut : laidOutB Try.prog = true := by kernel_rfl
set_option maxRecDepth 100000 in
theorem lifted (os : Os) (started : os.Started) (H : Type) (enc : TypeId × Value → H) :
    ReturnsInHanded {} Try.checked os 7 .any (Rows.scriptBackSpec.pre6 enc Try.prog Try.f7 Rows.scriptBackRow.domain false) (Rows.scriptBackSpec.post enc Try.prog Try.f7 false true false false) := by
  refine returnsInHanded_of_change_sized (C := Try.checked) own started (by kernel_rfl) Try.func7
    (ChangeSpec.witness6 (enc := enc) (C := Try.checked) false ⟨#[], #[.slice none 0 0, .int .u16 0], []⟩ 8 (by kernel_rfl) (by kernel_rfl) (by kernel_rfl) (by kernel_rfl)) ?_
  intro W base args ds gs before hval0 hW hcnd hsz0 _
  have hval : ∀ (j : Nat) t v, Try.f7.params[j]? = some t → args[j]? = some v → Value.okWide Try.prog W .any base t v := hval0
  have hW' := hW
  obtain ⟨p, q, hA0, hV, rfl, hfz, hnd⟩ := hW
  have hA : DataW.TrodAll enc Try.prog W 0 (fun _ => true) true Try.f7.params.toList args.toList ds p := hA0
  rw [Try.params7] at hA hval
  obtain ⟨v0, vs0, d0, ds0, p0, q0, hargs, rfl, rfl, h0, r0⟩ := trodAll_cons hA
  obtain ⟨v1, vs1, d1, ds1, p1, q1, rfl, rfl, rfl, h1, r1⟩ := trodAll_cons r0
  obtain ⟨rfl, rfl, rfl⟩ := trodAll_nil r1
  obtain rfl : args = #[v0, v1] := by cases args; simp_all
  obtain ⟨rfl, rfl⟩ := trodVars_none hV
  obtain ⟨a0, len0, cap0, rfl⟩ := okWide_slice Try.underlying30 (hval 0 30 v0 rfl rfl)
  have k0 := h0
  have lt0 : ∀ x ∈ p0, x.block < W.heap.size := by obtain ⟨m, hm⟩ := k0; exact DataW.trod_lt m _ _ _ hm
  obtain ⟨l0, rfl, hr0, hc0, f0⟩ := open_entries h0
  obtain ⟨a1, rfl, rfl, rfl, w1⟩ := open_int Try.underlying40 (hval 1 40 v1 rfl rfl) h1
  clear hA0 hval0 hsz0
  refine (holds a0 cap0 l0 a1 W hr0 hc0 f0 (rng16 w1)).mono fun e W' ⟨he, bel⟩ => ?_
  subst he
  exact ⟨_, rfl, _, _, _, [], _, [], hW', trodAll_mk1 (shut_bool Try.underlying4 _), (trodAll_cons_mk (Below.trod laidOut (by kernel_rfl) (of_decide_eq_true (by kernel_rfl)) k0 bel lt0) (trodAll_cons_mk (shut_int Try.underlying40 w1) trodAll_mk0)), rfl, bel.frame _, fun h => by cases h⟩
theorem over : Rows.scriptBackRow.holds Try.pinned (OpenSpec.ofChange Rows.scriptBackSpec) :=
  OpenClaim.holds_of_wide 7 Try.f7 rfl rfl rfl rfl rfl rfl rfl ⟨rfl, rfl, rfl, rfl, rfl⟩ rfl rfl rfl rfl rfl (by kernel_rfl) Try.func7 (by kernel_rfl)
    (of_decide_eq_true (by kernel_rfl)) (by unfold Func.isWrapper; first | (rw [if_pos (by decide +kernel)]; kernel_rfl) | (rw [if_neg (by decide +kernel)]; exact ⟨rfl, rfl⟩))
    (fun os started H enc _ => lifted os started H enc)
theorem proved : Rows.ScriptBackSaid := over
#print axioms proved
end Go.Proofs.Ytkommjibpeklgaa.scriptBack
namespace Go.Proofs.Ytkommjibpeklgaa
/-- The row, under a short name, for the claim. -/
theorem scriptBack_holds : Rows.ScriptBackSaid := scriptBack.proved
end Go.Proofs.Ytkommjibpeklgaa
