/- The law MendLooks, walked: it answers true. -/
import Derived.Test.YtchjjoepikcmfaaGreatAwake14
namespace Go.Proofs.YtchjjoepikcmfaaGreat.Tower
open Go Go.RowKit Go.Proofs.YtchjjoepikcmfaaGreatW.PrintWords Go.Proofs.YtchjjoepikcmfaaGreatW.PrintLast Go.Proofs.YtchjjoepikcmfaaGreatW.PrintMore Go.Proofs.YtchjjoepikcmfaaGreat.Own
set_option linter.unusedVariables false
set_option linter.unusedSimpArgs false

theorem u8_eq (x : Int) : (x == x) = true := beq_self_eq_true x
set_option maxHeartbeats 4000000 in
set_option maxRecDepth 100000 in
theorem mendLooks_calls (a : Int) (i t root : Bool) (Ap Ak Ay : Option Addr) (lp lk ly cp ck cy : Nat) (w : World) (hp : lp ≤ 9223372036854775807) (hy : ly ≤ 9223372036854775807) :
    Calls Tryz.prog 3 #[.int .i64 a, .agg #[.bool i, .bool t, .slice Ap lp cp, .slice Ak lk ck, .slice Ay ly cy], .bool root] w fun e w1 => e = .returned (.bool true) ∧ Below w.heap.size w w1 := by
  have HB := Aside0.mk (blk_new w (.cells #[.bool i, .bool t, .slice Ap lp cp, .slice Ak lk ck, .slice Ay ly cy] 29))
  have HL := Aside0.mk (below_alloc (Below.refl w.heap.size w) (.cells #[.bool i, .bool t, .slice Ap lp cp, .slice Ak lk ck, .slice Ay ly cy] 29))
  go_enter Tryz.func3, Tryz.ntmps3
  go_upto_region 1 with fail
  generalize w.alloc (.cells #[.bool i, .bool t, .slice Ap lp cp, .slice Ak lk ck, .slice Ay ly cy] 29) = w1 at HB HL ⊢
  generalize hbb : w.heap.size = b at HB ⊢
  go_upto_region 3 with (go_at_call 12; refine (awake14 _).mono ?_; rintro e w2 ⟨rfl, hb2⟩; have HB2 := Aside0.mk (blk_below HB.out hb2); have HL2 := Aside0.mk (below_then HL.out HL.out.size hb2); clear hb2)
  clear HB HL
  have k0 := (blk_cell HB2.out 0).trans (rfl : _ = some (Value.bool i))
  have k1 := (blk_cell HB2.out 1).trans (rfl : _ = some (Value.bool t))
  have k2 := (blk_cell HB2.out 2).trans (rfl : _ = some (Value.slice Ap lp cp))
  have k3 := (blk_cell HB2.out 3).trans (rfl : _ = some (Value.slice Ak lk ck))
  have k4 := (blk_cell HB2.out 4).trans (rfl : _ = some (Value.slice Ay ly cy))
  by_cases hlp : (lp : Int) > 40
  · have d1 : decide ((lp : Int) > 40) = true := decide_eq_true hlp
    have d2 : decide (40 < lp) = true := decide_eq_true (by omega)
    go_wp2_with fail
    go_ret
    exact ⟨rfl, by first | exact HL2.out | (rw [← hbb]; exact HL2.out)⟩
  · have d1 : decide ((lp : Int) > 40) = false := decide_eq_false hlp
    have d2 : decide (40 < lp) = false := decide_eq_false (by omega)
    by_cases hly : (ly : Int) > 40
    · have d3 : decide ((ly : Int) > 40) = true := decide_eq_true hly
      have d4 : decide (40 < ly) = true := decide_eq_true (by omega)
      go_wp2_with fail
      go_ret
      exact ⟨rfl, by first | exact HL2.out | (rw [← hbb]; exact HL2.out)⟩
    · have d3 : decide ((ly : Int) > 40) = false := decide_eq_false hly
      have d4 : decide (40 < ly) = false := decide_eq_false (by omega)
      have hbp : lp < 1000000 := by omega
      have hby : ly < 1000000 := by omega
      go_upto_region 5 with fail
      clear hlp hly d1 d2 d3 d4
      cases i with
      | false =>
        cases t with
        | false =>
          cases root with
          | false =>
            by_cases hc : (lp : Int) < a
            · have e1 : decide ((lp : Int) < a) = true := decide_eq_true hc
              have ML := mend_look a ⟨false, false, List.replicate lp (0, 0), List.replicate lk 0, List.replicate ly 0⟩ false Ap Ak Ay cp ck cy w2 (by simpa using hbp) (by simpa using hby)
              simp only [List.length_replicate] at ML
              have hw : wrongOf a ⟨false, false, List.replicate lp (0, 0), List.replicate lk 0, List.replicate ly 0⟩ false = 2 := by
                simp [wrongOf, sizeOfNd, leastOf]
                try omega
              rw [hw] at ML
              have HML := Aside0.mk ML
              clear ML hw
              go_wp2_with (go_at_call 13; refine HML.out.mono ?_; rintro e w3 ⟨rfl, hb3⟩; have HL3 := Aside0.mk (below_then HL2.out HL2.out.size hb3); clear hb3)
              go_ret
              exact ⟨rfl, by first | exact HL3.out | (rw [← hbb]; exact HL3.out)⟩
            · have e1 : decide ((lp : Int) < a) = false := decide_eq_false hc
              have ML := mend_look a ⟨false, false, List.replicate lp (0, 0), List.replicate lk 0, List.replicate ly 0⟩ false Ap Ak Ay cp ck cy w2 (by simpa using hbp) (by simpa using hby)
              simp only [List.length_replicate] at ML
              have hw : wrongOf a ⟨false, false, List.replicate lp (0, 0), List.replicate lk 0, List.replicate ly 0⟩ false = 0 := by
                simp [wrongOf, sizeOfNd, leastOf]
                try omega
              rw [hw] at ML
              have HML := Aside0.mk ML
              clear ML hw
              go_wp2_with (go_at_call 13; refine HML.out.mono ?_; rintro e w3 ⟨rfl, hb3⟩; have HL3 := Aside0.mk (below_then HL2.out HL2.out.size hb3); clear hb3)
              go_ret
              exact ⟨rfl, by first | exact HL3.out | (rw [← hbb]; exact HL3.out)⟩
          | true =>
            have ML := mend_look a ⟨false, false, List.replicate lp (0, 0), List.replicate lk 0, List.replicate ly 0⟩ true Ap Ak Ay cp ck cy w2 (by simpa using hbp) (by simpa using hby)
            simp only [List.length_replicate] at ML
            have hw : wrongOf a ⟨false, false, List.replicate lp (0, 0), List.replicate lk 0, List.replicate ly 0⟩ true = 0 := by
              simp [wrongOf, sizeOfNd, leastOf]
              try omega
            rw [hw] at ML
            have HML := Aside0.mk ML
            clear ML hw
            go_wp2_with (go_at_call 13; refine HML.out.mono ?_; rintro e w3 ⟨rfl, hb3⟩; have HL3 := Aside0.mk (below_then HL2.out HL2.out.size hb3); clear hb3)
            go_ret
            exact ⟨rfl, by first | exact HL3.out | (rw [← hbb]; exact HL3.out)⟩
        | true =>
          cases root with
          | false =>
            have ML := mend_look a ⟨false, true, List.replicate lp (0, 0), List.replicate lk 0, List.replicate ly 0⟩ false Ap Ak Ay cp ck cy w2 (by simpa using hbp) (by simpa using hby)
            simp only [List.length_replicate] at ML
            have hw : wrongOf a ⟨false, true, List.replicate lp (0, 0), List.replicate lk 0, List.replicate ly 0⟩ false = 1 := by
              simp [wrongOf, sizeOfNd, leastOf]
              try omega
            rw [hw] at ML
            have HML := Aside0.mk ML
            clear ML hw
            go_wp2_with (go_at_call 13; refine HML.out.mono ?_; rintro e w3 ⟨rfl, hb3⟩; have HL3 := Aside0.mk (below_then HL2.out HL2.out.size hb3); clear hb3)
            go_ret
            exact ⟨rfl, by first | exact HL3.out | (rw [← hbb]; exact HL3.out)⟩
          | true =>
            have ML := mend_look a ⟨false, true, List.replicate lp (0, 0), List.replicate lk 0, List.replicate ly 0⟩ true Ap Ak Ay cp ck cy w2 (by simpa using hbp) (by simpa using hby)
            simp only [List.length_replicate] at ML
            have hw : wrongOf a ⟨false, true, List.replicate lp (0, 0), List.replicate lk 0, List.replicate ly 0⟩ true = 1 := by
              simp [wrongOf, sizeOfNd, leastOf]
              try omega
            rw [hw] at ML
            have HML := Aside0.mk ML
            clear ML hw
            go_wp2_with (go_at_call 13; refine HML.out.mono ?_; rintro e w3 ⟨rfl, hb3⟩; have HL3 := Aside0.mk (below_then HL2.out HL2.out.size hb3); clear hb3)
            go_ret
            exact ⟨rfl, by first | exact HL3.out | (rw [← hbb]; exact HL3.out)⟩
      | true =>
        cases t with
        | false =>
          cases root with
          | false =>
            by_cases hc : (ly : Int) < a
            · have e1 : decide ((ly : Int) < a) = true := decide_eq_true hc
              have ML := mend_look a ⟨true, false, List.replicate lp (0, 0), List.replicate lk 0, List.replicate ly 0⟩ false Ap Ak Ay cp ck cy w2 (by simpa using hbp) (by simpa using hby)
              simp only [List.length_replicate] at ML
              have hw : wrongOf a ⟨true, false, List.replicate lp (0, 0), List.replicate lk 0, List.replicate ly 0⟩ false = 2 := by
                simp [wrongOf, sizeOfNd, leastOf]
                try omega
              rw [hw] at ML
              have HML := Aside0.mk ML
              clear ML hw
              go_wp2_with (go_at_call 13; refine HML.out.mono ?_; rintro e w3 ⟨rfl, hb3⟩; have HL3 := Aside0.mk (below_then HL2.out HL2.out.size hb3); clear hb3)
              go_ret
              exact ⟨rfl, by first | exact HL3.out | (rw [← hbb]; exact HL3.out)⟩
            · have e1 : decide ((ly : Int) < a) = false := decide_eq_false hc
              have ML := mend_look a ⟨true, false, List.replicate lp (0, 0), List.replicate lk 0, List.replicate ly 0⟩ false Ap Ak Ay cp ck cy w2 (by simpa using hbp) (by simpa using hby)
              simp only [List.length_replicate] at ML
              have hw : wrongOf a ⟨true, false, List.replicate lp (0, 0), List.replicate lk 0, List.replicate ly 0⟩ false = 0 := by
                simp [wrongOf, sizeOfNd, leastOf]
                try omega
              rw [hw] at ML
              have HML := Aside0.mk ML
              clear ML hw
              go_wp2_with (go_at_call 13; refine HML.out.mono ?_; rintro e w3 ⟨rfl, hb3⟩; have HL3 := Aside0.mk (below_then HL2.out HL2.out.size hb3); clear hb3)
              go_ret
              exact ⟨rfl, by first | exact HL3.out | (rw [← hbb]; exact HL3.out)⟩
          | true =>
            by_cases hc : (ly : Int) < 2
            · have e1 : decide ((ly : Int) < 2) = true := decide_eq_true hc
              have e2 : decide (ly < 2) = true := decide_eq_true (by omega)
              have ML := mend_look a ⟨true, false, List.replicate lp (0, 0), List.replicate lk 0, List.replicate ly 0⟩ true Ap Ak Ay cp ck cy w2 (by simpa using hbp) (by simpa using hby)
              simp only [List.length_replicate] at ML
              have hw : wrongOf a ⟨true, false, List.replicate lp (0, 0), List.replicate lk 0, List.replicate ly 0⟩ true = 2 := by
                simp [wrongOf, sizeOfNd, leastOf]
                try omega
              rw [hw] at ML
              have HML := Aside0.mk ML
              clear ML hw
              go_wp2_with (go_at_call 13; refine HML.out.mono ?_; rintro e w3 ⟨rfl, hb3⟩; have HL3 := Aside0.mk (below_then HL2.out HL2.out.size hb3); clear hb3)
              go_ret
              exact ⟨rfl, by first | exact HL3.out | (rw [← hbb]; exact HL3.out)⟩
            · have e1 : decide ((ly : Int) < 2) = false := decide_eq_false hc
              have e2 : decide (ly < 2) = false := decide_eq_false (by omega)
              have ML := mend_look a ⟨true, false, List.replicate lp (0, 0), List.replicate lk 0, List.replicate ly 0⟩ true Ap Ak Ay cp ck cy w2 (by simpa using hbp) (by simpa using hby)
              simp only [List.length_replicate] at ML
              have hw : wrongOf a ⟨true, false, List.replicate lp (0, 0), List.replicate lk 0, List.replicate ly 0⟩ true = 0 := by
                simp [wrongOf, sizeOfNd, leastOf]
                try omega
              rw [hw] at ML
              have HML := Aside0.mk ML
              clear ML hw
              go_wp2_with (go_at_call 13; refine HML.out.mono ?_; rintro e w3 ⟨rfl, hb3⟩; have HL3 := Aside0.mk (below_then HL2.out HL2.out.size hb3); clear hb3)
              go_ret
              exact ⟨rfl, by first | exact HL3.out | (rw [← hbb]; exact HL3.out)⟩
        | true =>
          cases root with
          | false =>
            have ML := mend_look a ⟨true, true, List.replicate lp (0, 0), List.replicate lk 0, List.replicate ly 0⟩ false Ap Ak Ay cp ck cy w2 (by simpa using hbp) (by simpa using hby)
            simp only [List.length_replicate] at ML
            have hw : wrongOf a ⟨true, true, List.replicate lp (0, 0), List.replicate lk 0, List.replicate ly 0⟩ false = 1 := by
              simp [wrongOf, sizeOfNd, leastOf]
              try omega
            rw [hw] at ML
            have HML := Aside0.mk ML
            clear ML hw
            go_wp2_with (go_at_call 13; refine HML.out.mono ?_; rintro e w3 ⟨rfl, hb3⟩; have HL3 := Aside0.mk (below_then HL2.out HL2.out.size hb3); clear hb3)
            go_ret
            exact ⟨rfl, by first | exact HL3.out | (rw [← hbb]; exact HL3.out)⟩
          | true =>
            have ML := mend_look a ⟨true, true, List.replicate lp (0, 0), List.replicate lk 0, List.replicate ly 0⟩ true Ap Ak Ay cp ck cy w2 (by simpa using hbp) (by simpa using hby)
            simp only [List.length_replicate] at ML
            have hw : wrongOf a ⟨true, true, List.replicate lp (0, 0), List.replicate lk 0, List.replicate ly 0⟩ true = 1 := by
              simp [wrongOf, sizeOfNd, leastOf]
              try omega
            rw [hw] at ML
            have HML := Aside0.mk ML
            clear ML hw
            go_wp2_with (go_at_call 13; refine HML.out.mono ?_; rintro e w3 ⟨rfl, hb3⟩; have HL3 := Aside0.mk (below_then HL2.out HL2.out.size hb3); clear hb3)
            go_ret
            exact ⟨rfl, by first | exact HL3.out | (rw [← hbb]; exact HL3.out)⟩
end Go.Proofs.YtchjjoepikcmfaaGreat.Tower
