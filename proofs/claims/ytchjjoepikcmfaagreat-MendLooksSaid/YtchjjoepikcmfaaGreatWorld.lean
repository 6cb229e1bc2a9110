/- What all share: the table of records, the epochs, the world; and how they are made. -/
import Derived.Test.YtchjjoepikcmfaaGreatAlloc
import Derived.LoopTactic
namespace Go.Proofs.YtchjjoepikcmfaaGreat.Tower
open Go Go.RowKit Go.Proofs.YtchjjoepikcmfaaGreatW.PrintWords Go.Proofs.YtchjjoepikcmfaaGreatW.PrintLast Go.Proofs.YtchjjoepikcmfaaGreatW.PrintMore Go.Proofs.YtchjjoepikcmfaaGreat.Own
set_option linter.unusedVariables false
set_option linter.unusedSimpArgs false

/-- A record; its entry; the table. -/
structure Rc where
  nodes : List Int
  infos : List Int
  keep : Int
  way : Int
  old : Int
  new : Int
structure En where
  rc : Rc
  state : Int
  all : Bool
structure Tb where
  l : List En
  most : Int
/-- The epochs: the nodes that each thread let go, each with its epoch. -/
structure Ep where
  now : Int
  said : List Int
  limbo : List (List (Int × Int))

/-- The table in memory. ρ: 0 the box, 1 the row of pointers, 2 entries' boxes, 3 their rows. eb: where the entries lie; nv, iv: their rows. -/
structure TableAt (ok : Nat → Prop) (p : Nat) (v : Value) (eb : Nat → Nat) (nv iv : Nat → Value) (ρ : Nat → Nat) (t : Tb) (w : World) : Prop where
  own : ok p
  role : ρ p = 0
  lt : ∀ k, ok k → k < w.heap.size
  box : w.heap[p]? = some (.cells #[v, .int .i64 t.most] 130 (0, 0))
  row : (Kd.raw 1).R 207 w 0 (fun k => ok k ∧ ρ k = 1) v ((List.range t.l.length).map fun i => [.pointer (some ⟨eb i, 0, none⟩)])
  ent : ∀ (i : Nat) (e : En), t.l[i]? = some e → ok (eb i) ∧ ρ (eb i) = 2 ∧ (∀ j, j < i → eb j ≠ eb i) ∧ w.heap[eb i]? = some (.cells #[nv i, iv i, .int .i64 e.rc.keep, .int .i64 e.rc.way, .int .i64 e.rc.old, .int .i64 e.rc.new, .int .u8 e.state, .bool e.all] 209 (0, 0)) ∧
    SlF (Kd.int .i64) w (fun k => ok k ∧ ρ k = 3) (nv i) e.rc.nodes ∧ SlF (Kd.int .i64) w (fun k => ok k ∧ ρ k = 3) (iv i) e.rc.infos
def IsTable (ok : Nat → Prop) (p : Nat) (t : Tb) (w : World) : Prop := ∃ v eb nv iv ρ, TableAt ok p v eb nv iv ρ t w
theorem IsTable.step {ok : Nat → Prop} {p : Nat} {t : Tb} {w w1 : World} (h : IsTable ok p t w) (hs : w.heap.size ≤ w1.heap.size) (hm : ∀ k, ok k → k < w.heap.size → w1.heap[k]? = w.heap[k]?) : IsTable ok p t w1 := by
  obtain ⟨v, eb, nv, iv, ρ, h⟩ := h
  exact ⟨v, eb, nv, iv, ρ, {
    own := h.own, role := h.role, lt := fun k hk => Nat.lt_of_lt_of_le (h.lt k hk) hs
    box := (hm p h.own (h.lt p h.own)).trans h.box
    row := Kd.R_step h.row (fun k hk hlt => hm k hk.1 hlt)
    ent := fun i e hi => by
      obtain ⟨h1, h2, h3, h4, h5, h6⟩ := h.ent i e hi
      exact ⟨h1, h2, h3, (hm _ h1 (h.lt _ h1)).trans h4, h5.step (fun k hk hlt => hm k hk.1 hlt), h6.step (fun k hk hlt => hm k hk.1 hlt)⟩ }⟩
theorem IsTable.lt {ok : Nat → Prop} {p : Nat} {t : Tb} {w : World} (h : IsTable ok p t w) : ∀ k, ok k → k < w.heap.size := by
  obtain ⟨v, eb, nv, iv, ρ, h⟩ := h
  exact h.lt

/-- The epochs in memory. ρ: 0 the box, 1 what was said, 2 the row of rows, 3 + i: the row of thread i. -/
structure EpochAt (ok : Nat → Prop) (p : Nat) (sv lv : Value) (gv : Nat → Value) (ρ : Nat → Nat) (t : Ep) (w : World) : Prop where
  own : ok p
  role : ρ p = 0
  lt : ∀ k, ok k → k < w.heap.size
  len : t.limbo.length = t.said.length
  box : w.heap[p]? = some (.cells #[.int .i64 t.now, sv, lv] 118 (0, 0))
  said : (Kd.int .i64).R 2 w 0 (fun k => ok k ∧ ρ k = 1) sv t.said
  row : (Kd.raw 1).R 119 w 0 (fun k => ok k ∧ ρ k = 2) lv ((List.range t.limbo.length).map fun i => [gv i])
  limbo : ∀ (i : Nat) (l : List (Int × Int)), t.limbo[i]? = some l → kPair.Q 217 w 0 (fun k => ok k ∧ ρ k = 3 + i) (gv i) l
def IsEpochs (ok : Nat → Prop) (p : Nat) (t : Ep) (w : World) : Prop := ∃ sv lv gv ρ, EpochAt ok p sv lv gv ρ t w
theorem IsEpochs.step {ok : Nat → Prop} {p : Nat} {t : Ep} {w w1 : World} (h : IsEpochs ok p t w) (hs : w.heap.size ≤ w1.heap.size) (hm : ∀ k, ok k → k < w.heap.size → w1.heap[k]? = w.heap[k]?) : IsEpochs ok p t w1 := by
  obtain ⟨sv, lv, gv, ρ, h⟩ := h
  exact ⟨sv, lv, gv, ρ, {
    own := h.own, role := h.role, lt := fun k hk => Nat.lt_of_lt_of_le (h.lt k hk) hs, len := h.len
    box := (hm p h.own (h.lt p h.own)).trans h.box
    said := Kd.R_step h.said (fun k hk hlt => hm k hk.1 hlt)
    row := Kd.R_step h.row (fun k hk hlt => hm k hk.1 hlt)
    limbo := fun i l hi => Kd.Q_step (h.limbo i l hi) (fun k hk hlt => hm k hk.1 hlt) }⟩
theorem IsEpochs.lt {ok : Nat → Prop} {p : Nat} {t : Ep} {w : World} (h : IsEpochs ok p t w) : ∀ k, ok k → k < w.heap.size := by
  obtain ⟨sv, lv, gv, ρ, h⟩ := h
  exact h.lt
theorem IsArena.lt {ok : Nat → Prop} {p : Nat} {t : Ar} {w : World} (h : IsArena ok p t w) : ∀ k, ok k → k < w.heap.size := by
  obtain ⟨sv, lv, gv, ρ, h⟩ := h
  exact h.lt

def ar0 (most : Int) : Ar := ⟨[], [], most, 0, 0⟩
structure Made (okM : (Nat → Prop) → Nat → World → Prop) (w : World) (e : Ending) (w1 : World) : Prop where
  out : ∃ ok p, e = .returned (.pointer (some ⟨p, 0, none⟩)) ∧ okM ok p w1 ∧ (∀ k, ok k → w.heap.size ≤ k) ∧ Below w.heap.size w w1

set_option maxHeartbeats 2000000 in
set_option maxRecDepth 100000 in
theorem arena_new (n : Int) (w : World) (h0 : 0 ≤ n) (h1 : n ≤ 65536) :
    Calls Tryz.prog 79 #[.int .i64 n] w (Made (fun ok p w1 => IsArena ok p (ar0 n) w1) w) := by
  go_enter Tryz.func79, Tryz.ntmps79
  go_wp2_with fail
  go_ret
  refine ⟨fun k => k = w.heap.size, w.heap.size, rfl, ⟨.slice none 0 0, .slice none 0 0, fun _ => lv0, fun _ => 0, ?_⟩, fun k hk => by omega, below_alloc (Below.refl _ _) _⟩
  exact { own := rfl, role := rfl, lt := fun k hk => by simp [hk], box := blk_new w _, rows := Kd.R_nil _ _ _ _ _, free := Kd.Q_nil _ _ _ _ _, node := fun i s hi => by simp [ar0] at hi, ways := fun i s hi => by simp [ar0] at hi }
set_option maxHeartbeats 2000000 in
set_option maxRecDepth 100000 in
theorem record_new (n : Int) (w : World) (h0 : 0 ≤ n) (h1 : n ≤ 65536) :
    Calls Tryz.prog 80 #[.int .i64 n] w (Made (fun ok p w1 => IsTable ok p ⟨[], n⟩ w1) w) := by
  go_enter Tryz.func80, Tryz.ntmps80
  go_wp2_with fail
  go_ret
  refine ⟨fun k => k = w.heap.size, w.heap.size, rfl, ⟨.slice none 0 0, fun _ => 0, fun _ => .slice none 0 0, fun _ => .slice none 0 0, fun _ => 0, ?_⟩, fun k hk => by omega, below_alloc (Below.refl _ _) _⟩
  exact { own := rfl, role := rfl, lt := fun k hk => by simp [hk], box := blk_new w _, row := Kd.R_nil _ _ _ _ _, ent := fun i s hi => by simp at hi }
theorem info_gones : (Tryz.prog.info? 119).map (fun i => (i.zero, i.size, i.bytes)) = some (some (.slice none 0 0), 1, 24) := by kernel_rfl
structure EpLoop (w : World) (S b : Nat) (LV : Value) (n k : Nat) (wr : World) : Prop where
  out : ∃ sv, wr.heap[b]? = some (.cells #[.int .i64 0, sv, LV] 118 (0, 0)) ∧ (Kd.int .i64).R 2 wr 0 (fun q => S ≤ q) sv (List.replicate k (-1)) ∧
    (Kd.raw 1).R 119 wr 0 (fun q => some q = LV.ownBlock) LV (List.replicate n [.slice none 0 0]) ∧ Below w.heap.size w wr ∧ S ≤ wr.heap.size
set_option maxHeartbeats 2000000 in
set_option maxRecDepth 100000 in
theorem epoch_new (n : Nat) (w : World) (h1 : n ≤ 64) :
    Calls Tryz.prog 81 #[.int .i64 n] w (Made (fun ok p w1 => IsEpochs ok p ⟨0, List.replicate n (-1), List.replicate n []⟩ w1) w) := by
  have b1 : (0 : Int) ≤ (n : Int) := by omega
  have b2 : (n : Int) ≤ 64 := by omega
  go_enter Tryz.func81, Tryz.ntmps81
  go_upto_region 2 with fail
  go_upto_region 3 with ((with_reducible refine gate_ (.makeSlice 116 (.tmp 7) (.tmp 7)) rfl ?_); refine Kd.R_make (Kd.raw 1) (w0 := w) w.heap.size 119 rfl rfl 116 (.tmp 7) (.tmp 7) rfl (n : Int) rfl rfl Tryz.underlying116 (.slice none 0 0) 24 info_gones rfl (by decide) (by decide) [.slice none 0 0] (ok := fun k => w.heap.size ≤ k) (okp := fun _ => False) ⟨rfl, rfl, by simp [Value.cells, Value.oneCell']⟩ (fun _ hk => hk.elim) (Nat.le_refl _) b1 (by omega) (Below.refl _ _) (Nat.le_refl _) ?_; intro v5 w5 ho hb5 hg hat; obtain ⟨A5, c5, rfl⟩ := Kd.R_slice ho; have m0_ := Aside0.mk ho; have m1_ := Aside0.mk hb5; clear ho hb5 hg hat)
  have hrep : (List.replicate ((n : Int)).toNat ([.slice none 0 0] : List Value)).length = n := by simp
  have hn1 : ((n : Int)).toNat = n := by simp
  rw [hn1] at m0_
  rw [List.length_replicate] at m0_
  have hlb : ∀ q, some q = (Value.slice A5 n c5).ownBlock → w.heap.size ≤ q ∧ q < w5.heap.size := fun q hq => ⟨Kd.R_base m0_.out q hq.symm, Kd.R_lt m0_.out q hq.symm⟩
  have HLB := Aside0.mk hlb
  have HR0 : Aside0 (EpLoop w (w5.heap.size + 1) w5.heap.size (.slice A5 n c5) n 0 (w5.alloc (.cells #[.int .i64 0, .slice none 0 0, .slice A5 n c5] 118))) := ⟨⟨.slice none 0 0, blk_new w5 _, Kd.R_nil _ _ _ _ _, Kd.R_lower (Kd.R_alloc (Kd.R_tight rfl m0_.out) _) (Nat.zero_le _), below_then m1_.out m1_.out.size (below_alloc (Below.refl _ _) _), by simp⟩⟩
  have HS0 : Aside0 (w.heap.size ≤ w5.heap.size) := ⟨m1_.out.size⟩
  clear m0_ m1_ hrep hn1 hlb
  generalize hbb : w5.heap.size = b at HLB HR0 HS0 ⊢
  generalize w5.alloc (.cells #[.int .i64 0, .slice none 0 0, .slice A5 n c5] 118) = w6 at HR0 ⊢
  clear hbb
  go_wp2_with fail
  go_loopw [12] (fun i wr => ∃ k : Nat, k ≤ n ∧ i = .int .i64 k ∧ Aside0 (EpLoop w (b + 1) b (.slice A5 n c5) n k wr)) (fun i _ => n - (intOf i).toNat)
  case atStart => exact ⟨0, Nat.zero_le _, rfl, HR0⟩
  case round =>
    obtain ⟨k, hk, rfl, HE⟩ := hrel
    clear HR0
    by_cases hlt : k < n
    · obtain ⟨sv, hb, hs, hl, hB, hS⟩ := HE.out
      obtain ⟨As, cs, rfl⟩ := Kd.R_slice hs
      rw [List.length_replicate] at hb hs
      have c1 : wr.cell? ⟨b, 1, none⟩ = some (.slice As k cs) := (blk_cell hb 1).trans rfl
      have n0_ := Aside0.mk hb
      have n1_ := Aside0.mk hs
      have n2_ := Aside0.mk hl
      have n3_ := Aside0.mk hB
      have n4_ := Aside0.mk hS
      have hne : some b ≠ (Value.slice As k cs).ownBlock := fun e => by have := hs.1 b e.symm; omega
      have HNE := Aside0.mk hne
      have d1 : decide ((k : Int) < (n : Int)) = true := decide_eq_true (by omega)
      have d2 : decide (k < n) = true := decide_eq_true hlt
      clear hb hs hl hB hS HE hne
      go_upto_region 6 with ((with_reducible refine gate_builtin (b := .append) (xs := #[.tmp 18, .tmp 19]) rfl ?_); at_builtin; refine Kd.R_append (Kd.int .i64) (w0 := wr) 0 rfl (.tmp 18) (.tmp 19) 24 2 (.int .i64 0) 8 rfl Tryz.underlying24 info64 rfl (by decide) (by omega) (.slice As k cs) (List.replicate k (-1)) (-1) [.int .i64 (-1)] (fun q => b + 1 ≤ q) (fun _ => False) rfl (by first | (go_simp; done) | (go_simp; rfl)) rfl (fun _ hk => hk.elim) (fun q hq => Nat.le_trans n4_.out hq) n1_.out (Below.refl _ _) (Nat.zero_le _) (by simp; omega) ?_; intro v7 w7 ho hb7 hg hat; obtain ⟨A7, c7, rfl⟩ := Kd.R_slice ho; have m0_ := Aside0.mk ho; have m1_ := Aside0.mk hg; have m2_ := Aside0.mk (blk_grown n0_.out hg HNE.out); have f1 := blk_frozen m2_.out 1; have c1 := (blk_cell m2_.out 1).trans (rfl : _ = some (Value.slice As k cs)); clear ho hb7 hg hat)
      have hl7 : (List.replicate k (-1 : Int) ++ [-1]) = List.replicate (k + 1) (-1) := by rw [List.replicate_succ']
      have HR1 : Aside0 (EpLoop w (b + 1) b (.slice A5 n c5) n (k + 1) (w7.setCell ⟨b, 1, none⟩ (.slice A7 (k + 1) c7))) := by
        have h0 := m0_.out
        rw [hl7, List.length_replicate] at h0
        have hl5 : ∀ q, some q = (Value.slice A5 n c5).ownBlock → some q ≠ (Value.slice As k cs).ownBlock := fun q hq e => by
          have h1 := (HLB.out q hq).2
          have h2 := n1_.out.1 q e.symm
          omega
        refine ⟨⟨.slice A7 (k + 1) c7, blk_set m2_.out 1 _, Kd.R_far h0 (fun q hq e => by have : q = b := e; omega) _, Kd.R_far (Kd.R_grown n2_.out m1_.out hl5) (fun q hq e => by have h1 := (HLB.out q hq).2; have : q = b := e; omega) _, ?_, ?_⟩⟩
        · have h1 := n3_.out
          have hg := m1_.out
          have h2 : Below w.heap.size w w7 := pw_below_grown h1 _ h1.size hg (fun q e => by have := n1_.out.1 q e; have := HS0.out; omega)
          exact h2.setCell (show w.heap.size ≤ b from HS0.out) _
        · have h1 := n4_.out
          have h2 := m1_.out.size
          simp [World.setCell]
          omega
      clear n0_ n1_ n2_ n3_ n4_ m0_ m1_ m2_ HNE c1 f1 hl7
      generalize w7.setCell ⟨b, 1, none⟩ (.slice A7 (k + 1) c7) = w8 at HR1 ⊢
      go_wp2_with fail
      go_roundw
      case rel => exact ⟨k + 1, by omega, by go_num, HR1⟩
      case measure => simp [intOf]; omega
    · have hkn : k = n := by omega
      subst hkn
      have d1 : decide ((k : Int) < (k : Int)) = false := decide_eq_false (by omega)
      have d2 : decide (k < k) = false := decide_eq_false (by omega)
      go_wp2_with fail
      go_ret
      obtain ⟨sv, hb, hs, hl, hB, hS⟩ := HE.out
      have hbw := HS0.out
      have hlb := HLB.out
      generalize hLV : Value.slice A5 k c5 = LV at hb hl hlb
      refine ⟨fun q => q = b ∨ (b + 1 ≤ q ∧ q < wr.heap.size) ∨ some q = LV.ownBlock, b, rfl, ⟨sv, LV, fun _ => .slice none 0 0, fun q => if q = b then 0 else if some q = LV.ownBlock then 2 else 1, ?_⟩, fun q hq => ?_, hB⟩
      · have hne : ∀ q, some q = LV.ownBlock → q ≠ b := fun q hq e => by have := (hlb q hq).2; omega
        exact {
          own := .inl rfl
          role := if_pos rfl
          lt := fun q hq => by
            rcases hq with rfl | hq | hq
            · exact blk_lt hb
            · exact hq.2
            · have := (hlb q hq).2; omega
          len := by simp
          box := hb
          said := Kd.R_mono (Kd.R_bound hs) (fun q hq => ⟨.inr (.inl ⟨hq.1, hq.2.2.1⟩), by
            rw [if_neg (by have := hq.1; omega), if_neg (fun e => by have h1 := (hlb q e).2; have h2 := hq.1; omega)]⟩)
          row := by
            have hr : ((List.range (List.replicate k ([] : List (Int × Int))).length).map fun _ => [Value.slice none 0 0]) = List.replicate k [Value.slice none 0 0] := by simp [List.map_const']
            show (Kd.raw 1).R _ wr 0 _ LV ((List.range (List.replicate k ([] : List (Int × Int))).length).map fun _ => [Value.slice none 0 0])
            rw [hr]
            exact Kd.R_mono hl (fun q hq => ⟨.inr (.inr hq), by rw [if_neg (hne q hq), if_pos hq]⟩)
          limbo := fun i l hi => by
            have : l = [] := by
              have := List.mem_of_getElem? hi
              exact List.eq_of_mem_replicate this
            subst this
            exact Kd.Q_nil _ _ _ _ _ }
      · rcases hq with rfl | hq | hq
        · exact hbw
        · omega
        · exact (hlb q hq).1
end Go.Proofs.YtchjjoepikcmfaaGreat.Tower
