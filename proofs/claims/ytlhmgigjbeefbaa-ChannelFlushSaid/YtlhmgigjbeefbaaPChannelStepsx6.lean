-- Printed by a patched copy of the kit's printer (wip/prt); nothing here is trusted, Lean checks it.
import Derived.Test.YtlhmgigjbeefbaaPChannelStepsx0
namespace Go.Proofs.Ytlhmgigjbeefbaa.PChannelSteps
open Go.RowKit Go.Proofs.YtlhmgigjbeefbaaW.PrintWords Go.Proofs.YtlhmgigjbeefbaaW.PrintLast Go.Proofs.YtlhmgigjbeefbaaW.PrintMore
attribute [local go_sem] max2_int min2_int max_two min_two max_three min_three max_four min_four   -- for this text's walks alone
set_option linter.unusedVariables false
set_option linter.unusedSimpArgs false

/-! ### customsref33_Repeat: function 20 -/
def customsref33_Repeat.j0 : Nat → Int → Bool → Int → List Int → List Int → Option (Int × List Int × List Int × Int)
  | 0, _, _, _, _, _ => none
  | k + 1, x1, x14, x264000, x264001, x264002 => if x14 = true then (some (0, ([] : List Int), ([] : List Int), 2)) else (if (x264001.length : Int) ≥ 1000 then (some (0, ([] : List Int), ([] : List Int), 8)) else ((some (([] : List Int) : List Int)).bind fun y265 => (if y265.length + x264001.length < 17592186044416 then ((some (y265 ++ x264001 : List Int)).bind fun y268 => (if 0 ≤ x1 then (if x1 < (x264001.length : Int) then ((some (([rd x264001 x1] : List Int) : List Int)).bind fun y272 => (if y268.length + y272.length < 17592186044416 then (some (x264000, (y268 ++ y272), x264002, 0)) else (none))) else (none)) else (none))) else (none))))
def customsref33_Repeat.f (k : Nat) (a0_0 : Int) (l0_1 : List Int) (l0_2 : List Int) (a1 : Int) : Option (Int × List Int × List Int × Int) := if a1 < 0 then (customsref33_Repeat.j0 k a1 true a0_0 l0_1 l0_2) else (customsref33_Repeat.j0 k a1 (decide (a1 ≥ (l0_1.length : Int))) a0_0 l0_1 l0_2)
theorem customsref33_Repeat.mono_l : ∀ k, (∀ y0 y1 y2 y3 y4, LeO (customsref33_Repeat.j0 k y0 y1 y2 y3 y4) (customsref33_Repeat.j0 (k + 1) y0 y1 y2 y3 y4))
  | 0 => fun _ _ _ _ _ r h => by simp [customsref33_Repeat.j0] at h
  | k + 1 => by
    have ih0 := customsref33_Repeat.mono_l k
    · intro y0 y1 y2 y3 y4
      unfold customsref33_Repeat.j0
      repeat' first
      | (with_reducible exact ih0 _ _ _ _ _)
      | (with_reducible exact LeO.refl _)
      | (with_reducible exact LeO.none _)
      | (with_reducible refine LeO.ite ?_ ?_)
      | (with_reducible refine LeO.bind ?_ (fun _ => ?_))
      | exact ih0 _ _ _ _ _
      | exact LeO.none _
      | refine LeO.ite ?_ ?_
      | refine LeO.bind ?_ (fun _ => ?_)
theorem customsref33_Repeat.mono : ∀ a0 a1 a2 a3 k, LeO (customsref33_Repeat.f k a0 a1 a2 a3) (customsref33_Repeat.f (k + 1) a0 a1 a2 a3) := by
  intro a0 a1 a2 a3 k
  have ih0 := customsref33_Repeat.mono_l k
  unfold customsref33_Repeat.f
  repeat' first
      | (with_reducible exact ih0 _ _ _ _ _)
      | (with_reducible exact LeO.refl _)
      | (with_reducible exact LeO.none _)
      | (with_reducible refine LeO.ite ?_ ?_)
      | (with_reducible refine LeO.bind ?_ (fun _ => ?_))
      | exact ih0 _ _ _ _ _
      | exact LeO.none _
      | refine LeO.ite ?_ ?_
      | refine LeO.bind ?_ (fun _ => ?_)
def customsref33_Repeat.T5 : Bool × List (List Nat × List Nat) := (true, [([], []), ([0], [0]), ([], []), ([], []), ([3], [3]), ([2, 4], [2, 4]), ([], []), ([6], [6]), ([], []), ([7, 8], [7, 8]), ([9], [9]), ([10], [10]), ([5, 11, 5], [5, 11]), ([], []), ([13], [13]), ([1, 12, 14], [1, 12, 14]), ([15, 12, 0, 1, 2, 3, 4, 5, 6, 7, 8, 9, 10, 11, 12, 13, 14, 15], [15]), ([16, 0, 1, 2, 3, 4, 5, 6, 7, 8, 9, 10, 11, 12, 13, 14, 15, 16], [])])
def customsref33_Repeat.B5 : List Nat := [0, 1, 0, 0, 8, 28, 0, 64, 0, 448, 960, 1984, 4092, 0, 8192, 32767, 65535, 131071]
theorem customsref33_Repeat.tab5 : rtab .any (opsOf Try.f20 5) = customsref33_Repeat.T5 := by kernel_rfl
theorem customsref33_Repeat.bits5 : waitsOk customsref33_Repeat.T5.2 customsref33_Repeat.B5 = true := by kernel_rfl
set_option maxHeartbeats 8000000 in
set_option maxRecDepth 100000 in
theorem customsref33_Repeat.calls (k : Nat) (a0_0 : Int) (A0_1 : Option Addr) (c0_1 : Nat) (l0_1 : List Int) (P0_2_ : Nat → Prop) (A0_2 : Option Addr) (c0_2 : Nat) (l0_2 : List Int) (a1 : Int) (r1 : Int) (r2 : List Int) (r3 : List Int) (r4 : Int) (w : World) (hr0_1 : Kd.C (Kd.int .i64) w A0_1 l0_1.length l0_1) (hc0_1 : l0_1.length ≤ c0_1) (hs0_2 : Kd.V (Kd.int .i64) 3 w w.heap.size (fun k_ => P0_2_ k_) (.slice A0_2 l0_2.length c0_2) l0_2) (h : customsref33_Repeat.f k a0_0 l0_1 l0_2 a1 = some (r1, r2, r3, r4)) :
    Calls Try.prog 20 #[.agg #[.int .i64 a0_0, .slice A0_1 l0_1.length c0_1, .slice A0_2 l0_2.length c0_2], .int .i64 a1] w fun e w' => ∃ v1_ v2_ : Value, e = .returned (.tuple #[.agg #[.int .i64 r1, v1_, v2_], .int .i64 r4]) ∧ Kd.R (Kd.int .i64) 3 w' w.heap.size (fun k_ => (w.heap.size ≤ k_)) v1_ r2 ∧ Kd.V (Kd.int .i64) 3 w' w.heap.size (fun k_ => (P0_2_ k_ ∨ w.heap.size ≤ k_) ∧ some k_ ≠ (v1_ : Value).ownBlock) v2_ r3 ∧ Below w.heap.size w w' := by
  have hu24 := Try.underlying24
  have HR0_1 := Aside0.mk hr0_1
  have HC0_1 := Aside0.mk hc0_1
  clear hr0_1 hc0_1
  have HO0_2 := Aside0.mk (show Kd.V (Kd.int .i64) 3 w w.heap.size (fun k_ => (P0_2_ k_ ∨ w.heap.size ≤ k_)) (.slice A0_2 l0_2.length c0_2) l0_2 from Kd.V_mono hs0_2 (fun k_ hk => .inl hk))
  have HB := Aside0.mk (Below.refl w.heap.size w)
  have H : (if a1 < 0 then (customsref33_Repeat.j0 k a1 true a0_0 l0_1 l0_2) else (customsref33_Repeat.j0 k a1 (decide (a1 ≥ (l0_1.length : Int))) a0_0 l0_1 l0_2)) = some (r1, r2, r3, r4) := h
  clear h
  have HC3 := Aside0.mk H
  clear H
  go_enter Try.func20, Try.ntmps20
  go_upto_region 1 with (first | ((with_reducible refine gate_dst (N := 2) rfl ?_); (try (refine gate_guard (by rfl) ?_; dsimp only)); refine box_event ?hg (N := 2) ?hd (cs := #[.int .i64 a0_0, .slice A0_1 l0_1.length c0_1, .slice A0_2 l0_2.length c0_2]) (t := 24) ?hr ?_; (case hd => rfl); (case hg => rfl); (case hr => first | (go_simp; done) | (go_simp; rfl)); intro gb263 hg w4 hbox hb; have n0_ := Aside0.mk (Kd.V_below (Kd.V_elderB (by exact pV HO0_2.out) gb263 (Nat.le_of_eq hg.symm)) hb); have n1_ := Aside0.mk (below_step (by exact pB HB.out) hb); have n2_ := Aside0.mk (hbox); have n3_ := Aside0.mk ((by rw [hg]; exact (below_size (by exact pB HB.out)) : w.heap.size ≤ gb263)); have n4_ := Aside0.mk ((by rw [hg]; exact (below_size (by exact pB HB.out)) : w.heap.size ≤ gb263)); clear HO0_2; clear HB; have HO0_2 := n0_; have HB := n1_; have BK263 := n2_; have GW263 := n3_; have GE263 := n4_; clear n0_ n1_ n2_ n3_ n4_; clear hb hbox hg) | ((with_reducible refine gate_dst (N := 4) rfl ?_); (try (refine gate_guard (by rfl) ?_; dsimp only)); refine box_event ?hg (N := 4) ?hd (cs := #[.int .i64 0, .slice none 0 0, .slice none 0 0]) (t := 24) ?hr ?_; (case hd => rfl); (case hg => rfl); (case hr => first | (go_simp; done) | (go_simp; rfl)); intro gb264 hg w5 hbox hb; have n0_ := Aside0.mk (Kd.V_below (Kd.V_elderB (by exact pV HO0_2.out) gb264 (Nat.le_of_eq hg.symm)) hb); have n1_ := Aside0.mk (blk_below (g := gb263) (o := .cells #[.int .i64 a0_0, .slice A0_1 l0_1.length c0_1, .slice A0_2 l0_2.length c0_2] 24 (0, 0)) (by exact pK BK263.out) hb); have n2_ := Aside0.mk (below_step (by exact pB HB.out) hb); have n3_ := Aside0.mk (hbox); have n4_ := Aside0.mk ((by rw [hg]; exact (below_size (by exact pB HB.out)) : w.heap.size ≤ gb264)); have n5_ := Aside0.mk ((by rw [hg]; exact (below_size (by exact pB HB.out)) : w.heap.size ≤ gb264)); have n6_ := Aside0.mk ((by rw [hg]; exact Nat.ne_of_lt (blk_lt (g := gb263) (o := .cells #[.int .i64 a0_0, .slice A0_1 l0_1.length c0_1, .slice A0_2 l0_2.length c0_2] 24 (0, 0)) (by exact pK BK263.out)) : gb263 ≠ gb264)); have n7_ := Aside0.mk ((by rw [hg]; exact Nat.ne_of_gt (blk_lt (g := gb263) (o := .cells #[.int .i64 a0_0, .slice A0_1 l0_1.length c0_1, .slice A0_2 l0_2.length c0_2] 24 (0, 0)) (by exact pK BK263.out)) : gb264 ≠ gb263)); clear HO0_2; clear BK263; clear HB; have HO0_2 := n0_; have BK263 := n1_; have HB := n2_; have BK264 := n3_; have GW264 := n4_; have GE264 := n5_; have NB263_264 := n6_; have NB264_263 := n7_; clear n0_ n1_ n2_ n3_ n4_ n5_ n6_ n7_; clear hb hbox hg))
  (try simp only [Act.put, List.setIfInBounds_toArray, List.set_cons_zero, List.set_cons_succ])
  go_cut [14] (fun v14 wc => ∃ (kq : Nat) (x14_2 : Bool), v14 = .bool x14_2 ∧ Aside0 (customsref33_Repeat.j0 kq a1 x14_2 a0_0 l0_1 l0_2 = some (r1, r2, r3, r4)) ∧ Aside0 (kq ≤ k) ∧ Aside0 (Kd.V (Kd.int .i64) 3 wc w.heap.size (fun k_ => (P0_2_ k_ ∨ w.heap.size ≤ k_) ∧ k_ ≠ gb263 ∧ k_ ≠ gb264) (.slice A0_2 l0_2.length c0_2) l0_2) ∧ Aside0 (wc.heap[gb263]? = some (.cells #[.int .i64 a0_0, (.slice A0_1 l0_1.length c0_1), (.slice A0_2 l0_2.length c0_2)] 24 (0, 0))) ∧ Aside0 (wc.heap[gb264]? = some (.cells #[.int .i64 0, (.slice none 0 0), (.slice none 0 0)] 24 (0, 0))) ∧ Aside0 (Below w.heap.size w wc))
  case first =>
    have H := HC3.out
    clear HC3
    by_cases c6 : a1 < 0
    · rw [if_pos c6] at H
      have c6b0 : decide (a1 < 0) = true := decide_eq_true c6
      clear c6
      (first | rw [c6b0] | (simp only [i64_w, i32_w]; rw [c6b0]) | skip)
      have H' := Aside0.mk H
      clear H
      go_wp2
      go_meet
      case rel => exact ⟨_, (true), (by first | rfl | (simp; done) | (simp [*]; done)), H', ⟨by first | omega | exact Nat.le_refl _⟩, ⟨by exact pV (Kd.V_mono HO0_2.out (fun _ hk => ⟨hk.1.1, ⟨hk.1.2, hk.2⟩⟩))⟩, ⟨by exact pK BK263.out⟩, ⟨by exact pK BK264.out⟩, ⟨by exact pB HB.out⟩⟩
    · rw [if_neg c6] at H
      have c6b0 : decide (a1 < 0) = false := decide_eq_false c6
      clear c6
      (first | rw [c6b0] | (simp only [i64_w, i32_w]; rw [c6b0]) | skip)
      have H' := Aside0.mk H
      clear H
      have hnb7 := NB263_264.out
      have hnc7 := NB264_263.out
      have hcz8_0 : w5.cell? ⟨gb263, 0, none⟩ = some (.int .i64 a0_0) := (blk_cell BK263.out 0).trans rfl
      have hcz8_1 : w5.cell? ⟨gb263, 1, none⟩ = some (.slice A0_1 l0_1.length c0_1) := (blk_cell BK263.out 1).trans rfl
      have hcz8_2 : w5.cell? ⟨gb263, 2, none⟩ = some (.slice A0_2 l0_2.length c0_2) := (blk_cell BK263.out 2).trans rfl
      have hfz8_0 := blk_frozen BK263.out 0
      have hfz8_1 := blk_frozen BK263.out 1
      have hfz8_2 := blk_frozen BK263.out 2
      go_wp2
      go_meet
      case rel => exact ⟨_, (decide (a1 ≥ (l0_1.length : Int))), (by first | rfl | (simp; done) | (simp [*]; done)), H', ⟨by first | omega | exact Nat.le_refl _⟩, ⟨by exact pV (Kd.V_mono HO0_2.out (fun _ hk => ⟨hk.1.1, ⟨hk.1.2, hk.2⟩⟩))⟩, ⟨by exact pK BK263.out⟩, ⟨by exact pK BK264.out⟩, ⟨by exact pB HB.out⟩⟩
  case rest =>
    clear HC3
    try clear c2
    try clear p2
    try clear c6
    try clear c6b0
    try clear c7
    try clear hcz8_0
    try clear hcz8_1
    try clear hcz8_2
    try clear hfz8_0
    try clear hfz8_1
    try clear hfz8_2
    obtain ⟨kq, x14_2, rfl, HA, HJ2, HO_264002, BK263, BK264, HB⟩ := hcut
    cases kq with
    | zero => exact absurd HA.out (by simp [customsref33_Repeat.j0])
    | succ kj2 =>
      have H := HA.out
      clear HA
      simp only [customsref33_Repeat.j0] at H
      by_cases c9 : x14_2 = true
      · subst c9
        have H1 : (some (0, ([] : List Int), ([] : List Int), 2)) = some (r1, r2, r3, r4) := by rw [if_pos rfl] at H; exact H
        clear H
        have H := H1
        clear H1
        simp only [Option.some.injEq, Prod.mk.injEq] at H
        obtain ⟨rfl, rfl, rfl, rfl⟩ := H
        have hnb10 := NB264_263.out
        have hnc10 := NB263_264.out
        have hcz11_0 : wc.cell? ⟨gb264, 0, none⟩ = some (.int .i64 0) := (blk_cell BK264.out 0).trans rfl
        have hcz11_1 : wc.cell? ⟨gb264, 1, none⟩ = some (.slice none 0 0) := (blk_cell BK264.out 1).trans rfl
        have hcz11_2 : wc.cell? ⟨gb264, 2, none⟩ = some (.slice none 0 0) := (blk_cell BK264.out 2).trans rfl
        have hfz11_0 := blk_frozen BK264.out 0
        have hfz11_1 := blk_frozen BK264.out 1
        have hfz11_2 := blk_frozen BK264.out 2
        go_wp2
        refine bodyPost_ret (results_ct rfl _ _ gb264 24 #[.int .i64 0, .slice none 0 0, .slice none 0 0] (0, 0) _ rfl (by (with_reducible repeat (first | refine blk_drewN ?_ _ | refine blk_drew ?_ | refine blk_alloc ?_ _)); refine blk_put (cs := #[.int .i64 0, .slice none 0 0, .slice none 0 0]) ?_ 2 _ rfl; (with_reducible repeat (first | refine blk_drewN ?_ _ | refine blk_drew ?_ | refine blk_alloc ?_ _)); refine blk_put (cs := #[.int .i64 0, .slice none 0 0, .slice none 0 0]) ?_ 1 _ rfl; (with_reducible repeat (first | refine blk_drewN ?_ _ | refine blk_drew ?_ | refine blk_alloc ?_ _)); refine blk_put (cs := #[.int .i64 0, .slice none 0 0, .slice none 0 0]) ?_ 0 _ rfl; (with_reducible repeat (first | refine blk_drewN ?_ _ | refine blk_drew ?_ | refine blk_alloc ?_ _)); exact BK264.out) Try.underlying24 rfl (by kernel_rfl)) rfl ?_
        exact ⟨_, _, by first | rfl | (simp [errW_none, errW_some] <;> rfl) | (simp [*, errW_none, errW_some] <;> rfl), by first | exact Kd.R_nil _ _ _ _ _ | exact Kd.N_nil _ _ _ _ _ | exact Kd.V_nil _ _ _ _ _ | exact Kd.Q_nil _ _ _ _ _ | exact Kd.S_nil _ _ _ _ _, by first | exact Kd.R_nil _ _ _ _ _ | exact Kd.N_nil _ _ _ _ _ | exact Kd.V_nil _ _ _ _ _ | exact Kd.Q_nil _ _ _ _ _ | exact Kd.S_nil _ _ _ _ _, by repeat (first | (with_reducible first | exact HB.out | apply below_alloc | apply pw_below_drewN | apply below_drew1 | refine below_set ?_ GE263.out | refine below_set ?_ GE264.out) | exact HB.out)⟩
      · replace c9 := Bool.eq_false_iff.mpr c9
        subst c9
        have H1 : (if (l0_1.length : Int) ≥ 1000 then (some (0, ([] : List Int), ([] : List Int), 8)) else ((some (([] : List Int) : List Int)).bind fun y265 => (if y265.length + l0_1.length < 17592186044416 then ((some (y265 ++ l0_1 : List Int)).bind fun y268 => (if 0 ≤ a1 then (if a1 < (l0_1.length : Int) then ((some (([rd l0_1 a1] : List Int) : List Int)).bind fun y272 => (if y268.length + y272.length < 17592186044416 then (some (a0_0, (y268 ++ y272), l0_2, 0)) else (none))) else (none)) else (none))) else (none)))) = some (r1, r2, r3, r4) := by rw [if_neg (show ¬ (false = true) by decide)] at H; exact H
        clear H
        have H := H1
        clear H1
        by_cases c12 : (l0_1.length : Int) ≥ 1000
        · rw [if_pos c12] at H
          have c12b0 : decide (1000 ≤ (l0_1.length : Int)) = true := decide_eq_true c12
          have c12b1 : decide (1000 ≤ l0_1.length) = true := decide_eq_true (by omega)
          clear c12
          simp only [Option.some.injEq, Prod.mk.injEq] at H
          obtain ⟨rfl, rfl, rfl, rfl⟩ := H
          have hnb13 := NB263_264.out
          have hnc13 := NB264_263.out
          have hcz14_0 : wc.cell? ⟨gb263, 0, none⟩ = some (.int .i64 a0_0) := (blk_cell BK263.out 0).trans rfl
          have hcz14_1 : wc.cell? ⟨gb263, 1, none⟩ = some (.slice A0_1 l0_1.length c0_1) := (blk_cell BK263.out 1).trans rfl
          have hcz14_2 : wc.cell? ⟨gb263, 2, none⟩ = some (.slice A0_2 l0_2.length c0_2) := (blk_cell BK263.out 2).trans rfl
          have hfz14_0 := blk_frozen BK263.out 0
          have hfz14_1 := blk_frozen BK263.out 1
          have hfz14_2 := blk_frozen BK263.out 2
          have hcz15_0 : wc.cell? ⟨gb264, 0, none⟩ = some (.int .i64 0) := (blk_cell BK264.out 0).trans rfl
          have hcz15_1 : wc.cell? ⟨gb264, 1, none⟩ = some (.slice none 0 0) := (blk_cell BK264.out 1).trans rfl
          have hcz15_2 : wc.cell? ⟨gb264, 2, none⟩ = some (.slice none 0 0) := (blk_cell BK264.out 2).trans rfl
          have hfz15_0 := blk_frozen BK264.out 0
          have hfz15_1 := blk_frozen BK264.out 1
          have hfz15_2 := blk_frozen BK264.out 2
          go_wp2
          refine bodyPost_ret (results_ct rfl _ _ gb264 24 #[.int .i64 0, .slice none 0 0, .slice none 0 0] (0, 0) _ rfl (by (with_reducible repeat (first | refine blk_drewN ?_ _ | refine blk_drew ?_ | refine blk_alloc ?_ _)); refine blk_put (cs := #[.int .i64 0, .slice none 0 0, .slice none 0 0]) ?_ 2 _ rfl; (with_reducible repeat (first | refine blk_drewN ?_ _ | refine blk_drew ?_ | refine blk_alloc ?_ _)); refine blk_put (cs := #[.int .i64 0, .slice none 0 0, .slice none 0 0]) ?_ 1 _ rfl; (with_reducible repeat (first | refine blk_drewN ?_ _ | refine blk_drew ?_ | refine blk_alloc ?_ _)); refine blk_put (cs := #[.int .i64 0, .slice none 0 0, .slice none 0 0]) ?_ 0 _ rfl; (with_reducible repeat (first | refine blk_drewN ?_ _ | refine blk_drew ?_ | refine blk_alloc ?_ _)); exact BK264.out) Try.underlying24 rfl (by kernel_rfl)) rfl ?_
          exact ⟨_, _, by first | rfl | (simp [errW_none, errW_some] <;> rfl) | (simp [*, errW_none, errW_some] <;> rfl), by first | exact Kd.R_nil _ _ _ _ _ | exact Kd.N_nil _ _ _ _ _ | exact Kd.V_nil _ _ _ _ _ | exact Kd.Q_nil _ _ _ _ _ | exact Kd.S_nil _ _ _ _ _, by first | exact Kd.R_nil _ _ _ _ _ | exact Kd.N_nil _ _ _ _ _ | exact Kd.V_nil _ _ _ _ _ | exact Kd.Q_nil _ _ _ _ _ | exact Kd.S_nil _ _ _ _ _, by repeat (first | (with_reducible first | exact HB.out | apply below_alloc | apply pw_below_drewN | apply below_drew1 | refine below_set ?_ GE263.out | refine below_set ?_ GE264.out) | exact HB.out)⟩
        · rw [if_neg c12] at H
          have c12b0 : decide (1000 ≤ (l0_1.length : Int)) = false := decide_eq_false c12
          have c12b1 : decide (1000 ≤ l0_1.length) = false := decide_eq_false (by omega)
          clear c12
          obtain ⟨y265, hy265⟩ : ∃ y_ : List Int, y_ = (([] : List Int)) := ⟨_, rfl⟩
          replace H : (if y265.length + l0_1.length < 17592186044416 then ((some (y265 ++ l0_1 : List Int)).bind fun y268 => (if 0 ≤ a1 then (if a1 < (l0_1.length : Int) then ((some (([rd l0_1 a1] : List Int) : List Int)).bind fun y272 => (if y268.length + y272.length < 17592186044416 then (some (a0_0, (y268 ++ y272), l0_2, 0)) else (none))) else (none)) else (none))) else (none)) = some (r1, r2, r3, r4) := by first | (rw [hy265]; with_reducible exact H) | (have H2_ := (Option.bind_some _ _).symm.trans H; rw [hy265]; with_reducible exact H2_) | (have H2_ := (Option.bind_some _ _).symm.trans H; with_reducible exact H2_) | with_reducible exact H | (rw [hy265]; exact H) | exact H
          have Ny265 := Aside0.mk hy265
          clear hy265
          have c16 : y265.length + l0_1.length < 17592186044416 := by
            refine Classical.byContradiction fun c16 => ?_
            rw [if_neg c16] at H
            exact absurd H (by simp)
          rw [if_pos c16] at H
          have LMc16 := Aside0.mk c16
          clear c16
          obtain ⟨y268, hy268⟩ : ∃ y_ : List Int, y_ = (y265 ++ l0_1) := ⟨_, rfl⟩
          replace H : (if 0 ≤ a1 then (if a1 < (l0_1.length : Int) then ((some (([rd l0_1 a1] : List Int) : List Int)).bind fun y272 => (if y268.length + y272.length < 17592186044416 then (some (a0_0, (y268 ++ y272), l0_2, 0)) else (none))) else (none)) else (none)) = some (r1, r2, r3, r4) := by first | (rw [hy268]; with_reducible exact H) | (have H2_ := (Option.bind_some _ _).symm.trans H; rw [hy268]; with_reducible exact H2_) | (have H2_ := (Option.bind_some _ _).symm.trans H; with_reducible exact H2_) | with_reducible exact H | (rw [hy268]; exact H) | exact H
          have Ny268 := Aside0.mk hy268
          clear hy268
          have c17 : 0 ≤ a1 := by
            refine Classical.byContradiction fun c17 => ?_
            rw [if_neg c17] at H
            exact absurd H (by simp)
          rw [if_pos c17] at H
          have c17b0 : decide (0 ≤ a1) = true := decide_eq_true c17
          clear c17
          have c18 : a1 < (l0_1.length : Int) := by
            refine Classical.byContradiction fun c18 => ?_
            rw [if_neg c18] at H
            exact absurd H (by simp)
          rw [if_pos c18] at H
          have c18b0 : decide (a1 < (l0_1.length : Int)) = true := decide_eq_true c18
          clear c18
          obtain ⟨y272, hy272⟩ : ∃ y_ : List Int, y_ = (([rd l0_1 a1] : List Int)) := ⟨_, rfl⟩
          replace H : (if y268.length + y272.length < 17592186044416 then (some (a0_0, (y268 ++ y272), l0_2, 0)) else (none)) = some (r1, r2, r3, r4) := by first | (rw [hy272]; with_reducible exact H) | (have H2_ := (Option.bind_some _ _).symm.trans H; rw [hy272]; with_reducible exact H2_) | (have H2_ := (Option.bind_some _ _).symm.trans H; with_reducible exact H2_) | with_reducible exact H | (rw [hy272]; exact H) | exact H
          have Ny272 := Aside0.mk hy272
          clear hy272
          have c19 : y268.length + y272.length < 17592186044416 := by
            refine Classical.byContradiction fun c19 => ?_
            rw [if_neg c19] at H
            exact absurd H (by simp)
          rw [if_pos c19] at H
          have LMc19 := Aside0.mk c19
          clear c19
          obtain ⟨y275, hy275⟩ : ∃ y_ : List Int, y_ = (y268 ++ y272) := ⟨_, rfl⟩
          replace H : (some (a0_0, y275, l0_2, 0)) = some (r1, r2, r3, r4) := by first | (rw [hy275]; with_reducible exact H) | (have H2_ := (Option.bind_some _ _).symm.trans H; rw [hy275]; with_reducible exact H2_) | (have H2_ := (Option.bind_some _ _).symm.trans H; with_reducible exact H2_) | with_reducible exact H | (rw [hy275]; exact H) | exact H
          have Ny275 := Aside0.mk hy275
          clear hy275
          simp only [Option.some.injEq, Prod.mk.injEq] at H
          obtain ⟨rfl, rfl, rfl, rfl⟩ := H
          have hnb20 := NB263_264.out
          have hnc20 := NB264_263.out
          have hcz21_0 : wc.cell? ⟨gb263, 0, none⟩ = some (.int .i64 a0_0) := (blk_cell BK263.out 0).trans rfl
          have hcz21_1 : wc.cell? ⟨gb263, 1, none⟩ = some (.slice A0_1 l0_1.length c0_1) := (blk_cell BK263.out 1).trans rfl
          have hcz21_2 : wc.cell? ⟨gb263, 2, none⟩ = some (.slice A0_2 l0_2.length c0_2) := (blk_cell BK263.out 2).trans rfl
          have hfz21_0 := blk_frozen BK263.out 0
          have hfz21_1 := blk_frozen BK263.out 1
          have hfz21_2 := blk_frozen BK263.out 2
          try go_wp2
          have n0_ := Aside0.mk (Kd.V_drew HO_264002.out)
          have n1_ := Aside0.mk (blk_drew BK263.out)
          have n2_ := Aside0.mk (blk_drew BK264.out)
          have n3_ := Aside0.mk (below_drew1 HB.out)
          clear HO_264002
          clear BK263
          clear BK264
          clear HB
          have HO_264002 := n0_
          have BK263 := n1_
          have BK264 := n2_
          have HB := n3_
          clear n0_ n1_ n2_ n3_
          have p271 : 0 ≤ (a1 : Int) := of_decide_eq_true (by first | (with_reducible assumption) | assumption)
          have q271 : a1 < (l0_1.length : Int) := of_decide_eq_true (by first | (with_reducible assumption) | assumption)
          obtain ⟨ad271, e271, hx271_0⟩ := Kd.at_int HR0_1.out a1 p271 q271
          have hw271_0 := hx271_0
          cases e271
          replace hx271_0 := (HB.out.cell (World.block_lt_of_cell? w _ hx271_0)).trans hx271_0
          replace p271 := eq_true p271
          replace q271 := eq_true q271
          refine start_ (n := 18) (S := fun w' => w'.cell? ⟨gb263, 0, none⟩ = some (.int .i64 a0_0) ∧ w'.cell? ⟨gb263, 1, none⟩ = some (.slice (some ad271) l0_1.length c0_1) ∧ w'.cell? ⟨gb263, 2, none⟩ = some (.slice A0_2 l0_2.length c0_2) ∧ w'.cell? (ad271.add (a1).toNat) = some (.int .i64 (rd l0_1 a1))) (ds := []) #[false, false, false, false, false, false, false, false, false, false, false, false, false, false, false, false, false, false] (by kernel_rfl) rfl rfl ⟨(blk_cell BK263.out 0).trans rfl, (blk_cell BK263.out 1).trans rfl, (blk_cell BK263.out 2).trans rfl, ((HB.out.cell (World.block_lt_of_cell? w _ hw271_0)).trans hw271_0)⟩ (fun hHeld => ?_); refine with_tabW customsref33_Repeat.tab5 customsref33_Repeat.bits5 (fun HT_ HW_ => ?_)
          generalize wc.drew = w22 at HO_264002 BK263 BK264 HB hx271_0 hHeld ⊢
          refine pure_ (i := 0) (N := some 21) (v := ?_) (a' := ?_) #[true, false, false, false, false, false, false, false, false, false, false, false, false, false, false, false, false, false] rfl rfl (any_of HT_.out (by kernel_rfl)) (fun _ _ _ h => h) (Or.inl ⟨by rfl, ?_⟩) ?_ ?_
          rotate_left
          · intro w'
            go_simp
            with_reducible rfl
          rotate_left
          · simp only [Act.put, List.setIfInBounds_toArray, List.set_cons_zero, List.set_cons_succ, i64_w, i32_w]
            rfl
          refine pure_ (i := 3) (N := some 24) (v := ?_) (a' := ?_) #[true, false, false, true, false, false, false, false, false, false, false, false, false, false, false, false, false, false] rfl rfl (any_of HT_.out (by kernel_rfl)) (fun _ _ _ h => h) (Or.inl ⟨by rfl, ?_⟩) ?_ ?_
          rotate_left
          · intro w'
            go_simp
            with_reducible rfl
          rotate_left
          · simp only [Act.put, List.setIfInBounds_toArray, List.set_cons_zero, List.set_cons_succ, i64_w, i32_w]
            rfl
          refine pure_ (i := 6) (N := some 27) (v := ?_) (a' := ?_) #[true, false, false, true, false, false, true, false, false, false, false, false, false, false, false, false, false, false] rfl rfl (any_of HT_.out (by kernel_rfl)) (fun _ _ _ h => h) (Or.inl ⟨by rfl, ?_⟩) ?_ ?_
          rotate_left
          · intro w'
            go_simp
            with_reducible rfl
          rotate_left
          · simp only [Act.put, List.setIfInBounds_toArray, List.set_cons_zero, List.set_cons_succ, i64_w, i32_w]
            rfl
          refine pure_ (i := 8) (N := some 29) (v := ?_) (a' := ?_) #[true, false, false, true, false, false, true, false, true, false, false, false, false, false, false, false, false, false] rfl rfl (any_of HT_.out (by kernel_rfl)) (fun _ _ _ h => h) (Or.inl ⟨by rfl, ?_⟩) ?_ ?_
          rotate_left
          · intro w'
            go_simp
            with_reducible rfl
          rotate_left
          · simp only [Act.put, List.setIfInBounds_toArray, List.set_cons_zero, List.set_cons_succ, i64_w, i32_w]
            rfl
          refine pure_ (i := 13) (N := some 34) (v := ?_) (a' := ?_) #[true, false, false, true, false, false, true, false, true, false, false, false, false, true, false, false, false, false] rfl rfl (any_of HT_.out (by kernel_rfl)) (fun _ _ _ h => h) (Or.inl ⟨by rfl, ?_⟩) ?_ ?_
          rotate_left
          · intro w'
            go_simp
            with_reducible rfl
          rotate_left
          · simp only [Act.put, List.setIfInBounds_toArray, List.set_cons_zero, List.set_cons_succ, i64_w, i32_w]
            rfl
          refine take_ (i := 1) (N := some 22) (v := ?_) (a' := ?_) #[true, true, false, true, false, false, true, false, true, false, false, false, false, true, false, false, false, false] rfl rfl (take_ofW HT_.out HW_.out (by kernel_rfl)) (fun _ _ _ h => h) (Or.inl ⟨by rfl, ?_⟩) hHeld ?_ ?_
          rotate_left
          · rintro w' ⟨s0, s1, s2, s3⟩
            go_simp
            with_reducible rfl
          rotate_left
          · simp only [Act.put, List.setIfInBounds_toArray, List.set_cons_zero, List.set_cons_succ, i64_w, i32_w]
            rfl
          refine take_ (i := 4) (N := some 25) (v := ?_) (a' := ?_) #[true, true, false, true, true, false, true, false, true, false, false, false, false, true, false, false, false, false] rfl rfl (take_ofW HT_.out HW_.out (by kernel_rfl)) (fun _ _ _ h => h) (Or.inl ⟨by rfl, ?_⟩) hHeld ?_ ?_
          rotate_left
          · rintro w' ⟨s0, s1, s2, s3⟩
            go_simp
            with_reducible rfl
          rotate_left
          · simp only [Act.put, List.setIfInBounds_toArray, List.set_cons_zero, List.set_cons_succ, i64_w, i32_w]
            rfl
          refine take_ (i := 7) (N := some 28) (v := ?_) (a' := ?_) #[true, true, false, true, true, false, true, true, true, false, false, false, false, true, false, false, false, false] rfl rfl (take_ofW HT_.out HW_.out (by kernel_rfl)) (fun _ _ _ h => h) (Or.inl ⟨by rfl, ?_⟩) hHeld ?_ ?_
          rotate_left
          · rintro w' ⟨s0, s1, s2, s3⟩
            go_simp
            with_reducible rfl
          rotate_left
          · simp only [Act.put, List.setIfInBounds_toArray, List.set_cons_zero, List.set_cons_succ, i64_w, i32_w]
            rfl
          refine pure_ (i := 9) (N := some 30) (v := ?_) (a' := ?_) #[true, true, false, true, true, false, true, true, true, true, false, false, false, true, false, false, false, false] rfl rfl (any_of HT_.out (by kernel_rfl)) (fun _ _ _ h => h) (Or.inl ⟨by rfl, ?_⟩) ?_ ?_
          rotate_left
          · intro w'
            go_simp
            with_reducible rfl
          rotate_left
          · simp only [Act.put, List.setIfInBounds_toArray, List.set_cons_zero, List.set_cons_succ, i64_w, i32_w]
            rfl
          refine take_ (i := 10) (N := some 31) (v := ?_) (a' := ?_) #[true, true, false, true, true, false, true, true, true, true, true, false, false, true, false, false, false, false] rfl rfl (take_ofW HT_.out HW_.out (by kernel_rfl)) (fun _ _ _ h => h) (Or.inl ⟨by rfl, ?_⟩) hHeld ?_ ?_
          rotate_left
          · rintro w' ⟨s0, s1, s2, s3⟩
            go_simp
            with_reducible rfl
          rotate_left
          · simp only [Act.put, List.setIfInBounds_toArray, List.set_cons_zero, List.set_cons_succ, i64_w, i32_w]
            rfl
          refine take_ (i := 14) (N := some 35) (v := ?_) (a' := ?_) #[true, true, false, true, true, false, true, true, true, true, true, false, false, true, true, false, false, false] rfl rfl (take_ofW HT_.out HW_.out (by kernel_rfl)) (fun _ _ _ h => h) (Or.inl ⟨by rfl, ?_⟩) hHeld ?_ ?_
          rotate_left
          · rintro w' ⟨s0, s1, s2, s3⟩
            go_simp
            with_reducible rfl
          rotate_left
          · simp only [Act.put, List.setIfInBounds_toArray, List.set_cons_zero, List.set_cons_succ, i64_w, i32_w]
            rfl
          refine join_ (σ := Value × Value × Value) 4 #[true, true, true, true, true, true, true, true, true, true, true, true, false, true, true, false, false, false] (fun s_ => [(23, s_.1), (26, s_.2.1), (32, s_.2.2)]) (fun s_ w' => (w'.cell? ⟨gb263, 0, none⟩ = some (.int .i64 a0_0) ∧ w'.cell? ⟨gb263, 1, none⟩ = some (.slice (some ad271) l0_1.length c0_1) ∧ w'.cell? ⟨gb263, 2, none⟩ = some (.slice A0_2 l0_2.length c0_2) ∧ w'.cell? (ad271.add (a1).toNat) = some (.int .i64 (rd l0_1 a1))) ∧ (Kd.R (Kd.int .i64) 3 w' w.heap.size (fun k_ => (w.heap.size ≤ k_) ∧ some k_ ≠ (s_.2.2 : Value).ownBlock) s_.2.1 y268) ∧ (Kd.R (Kd.int .i64) 3 w' w.heap.size (fun k_ => (w.heap.size ≤ k_) ∧ some k_ ≠ (s_.2.1 : Value).ownBlock) s_.2.2 y272) ∧ (Kd.V (Kd.int .i64) 3 w' w.heap.size (fun k_ => (P0_2_ k_ ∨ w.heap.size ≤ k_) ∧ some k_ ≠ (s_.2.1 : Value).ownBlock ∧ some k_ ≠ (s_.2.2 : Value).ownBlock ∧ k_ ≠ gb263 ∧ k_ ≠ gb264) (.slice A0_2 l0_2.length c0_2) l0_2) ∧ (w'.heap[gb263]? = some (.cells #[.int .i64 a0_0, .slice (some ad271) l0_1.length c0_1, .slice A0_2 l0_2.length c0_2] 24 (0, 0))) ∧ (w'.heap[gb264]? = some (.cells #[.int .i64 0, .slice none 0 0, .slice none 0 0] 24 (0, 0))) ∧ (Below w.heap.size w w')) ?_ ?_
          rotate_left
          · intro hCont
            refine two_ (i := 2) (j := 11) (Ni := some 23) (Nj := some 32) #[true, true, true, true, true, false, true, true, true, true, true, false, false, true, true, false, false, false] #[true, true, false, true, true, false, true, true, true, true, true, true, false, true, true, false, false, false] rfl rfl rfl rfl (two_of HT_.out (by kernel_rfl)) (by decide) (by decide) (fun K hK => ?_) (fun K hK => ?_)
            · skip
              refine Kd.R_lit_step (Kd.int .i64) _ 3 ?hg (N := 23) ?hd (xs := ([] : List Int)) (inner := []) (ok := fun _ => True) (okp := fun _ => True) ?hr ?hp (fun _ hk => hk) trivial (Below.refl _ _) (Nat.le_refl _) (by simp) ?_; (case hd => rfl); (case hg => rfl); (case hr => first | (go_simp; done) | (go_simp; rfl)); (case hp => exact (Reps.none _ _))
              intro v266 w23 ho24 hb hg_ hnew_
              clear hg_ hnew_
              (first | rw [← Ny265.out] at ho24 | (simp only [Int.reduceToNat] at ho24; rw [← Ny265.out] at ho24))
              have n0_ := Aside0.mk (Kd.V_elder' (by exact pV HO_264002.out) (Kd.R_base ho24) hb)
              have n1_ := Aside0.mk (Kd.R_lower (Kd.R_newM (M := fun k_ => (w.heap.size ≤ k_)) ho24 (below_size (by exact pB HB.out)) (fun k_ h_ => h_)) (below_size (by exact pB HB.out)))
              have n2_ := Aside0.mk (blk_below (g := gb263) (o := .cells #[.int .i64 a0_0, .slice (some ad271) l0_1.length c0_1, .slice A0_2 l0_2.length c0_2] 24 (0, 0)) (by exact pK BK263.out) hb)
              have n3_ := Aside0.mk (blk_below (g := gb264) (o := .cells #[.int .i64 0, .slice none 0 0, .slice none 0 0] 24 (0, 0)) (by exact pK BK264.out) hb)
              have n4_ := Aside0.mk (below_step (by exact pB HB.out) hb)
              clear HO_264002
              clear BK263
              clear BK264
              clear HB
              have HO_264002 := n0_
              have HO267 := n1_
              have BK263 := n2_
              have BK264 := n3_
              have HB := n4_
              clear n0_ n1_ n2_ n3_ n4_
              clear hb ho24
              refine hK.out _ _ ⟨(blk_cell BK263.out 0).trans rfl, (blk_cell BK263.out 1).trans rfl, (blk_cell BK263.out 2).trans rfl, ((HB.out.cell (World.block_lt_of_cell? w _ hw271_0)).trans hw271_0)⟩ (fun hHeld => ?_)
              clear hK K
              refine norm_ (a' := ?_) ?_ ?_
              rotate_left
              · show Act.put _ (some 23) _ = _
                simp only [Act.put, List.setIfInBounds_toArray, List.set_cons_zero, List.set_cons_succ, i64_w, i32_w]
                rfl
              refine two_ (i := 5) (j := 11) (Ni := some 26) (Nj := some 32) #[true, true, true, true, true, true, true, true, true, true, true, false, false, true, true, false, false, false] #[true, true, true, true, true, false, true, true, true, true, true, true, false, true, true, false, false, false] rfl rfl rfl rfl (two_of HT_.out (by kernel_rfl)) (by decide) (by decide) (fun K hK => ?_) (fun K hK => ?_)
              · skip
                refine Kd.R_append_rows_step (Kd.int .i64) (w0 := w) w.heap.size (by rfl) (.tmp 23) (.tmp 25) 22 3 (.int .i64 0) 8 rfl Try.underlying22 info3 rfl (by decide) (by omega) v266 y265 l0_1 _ _ _ (fun k_ => (w.heap.size ≤ k_)) (fun _ => False) rfl rfl ?aO ?aR (fun _ _ h => h) (fun _ h => h.elim) ?aF ?aB ?aS ?aL ?_
                (case aR => exact pC (Kd.C_below HR0_1.out HB.out))
                (case aB => exact (by exact pB HB.out))
                (case aF => exact (fun k_ hk => (Nat.le_trans (below_size (by exact pB HB.out)) hk)))
                (case aO => exact (by exact pR (Kd.R_mono HO267.out (fun _ hk => hk.1))))
                (case aS => exact (below_size (by exact pB HB.out)))
                (case aL => have := LMc16.out; omega)
                intro v269 w25 ho hb hg hat
                rw [← Ny268.out] at ho
                have n0_ := Aside0.mk (Kd.V_afterv (ok := (fun k_ => (P0_2_ k_ ∨ w.heap.size ≤ k_) ∧ k_ ≠ gb263 ∧ k_ ≠ gb264)) (by exact pV HO_264002.out) hg hat)
                have n1_ := Aside0.mk (blk_grown (g := gb263) (o := .cells #[.int .i64 a0_0, .slice (some ad271) l0_1.length c0_1, .slice A0_2 l0_2.length c0_2] 24 (0, 0)) (by exact pK BK263.out) hg (Kd.R_ne HO267.out BK263.out (by decide)))
                have n2_ := Aside0.mk (blk_grown (g := gb264) (o := .cells #[.int .i64 0, .slice none 0 0, .slice none 0 0] 24 (0, 0)) (by exact pK BK264.out) hg (Kd.R_ne HO267.out BK264.out (by decide)))
                have n3_ := Aside0.mk (hb)
                have n4_ := Aside0.mk (ho)
                clear HO_264002
                clear BK263
                clear BK264
                clear HB
                clear HO267
                have HO_264002 := n0_
                have BK263 := n1_
                have BK264 := n2_
                have HB := n3_
                have HO270 := n4_
                clear n0_ n1_ n2_ n3_ n4_
                clear ho hb hg hat
                refine hK.out _ _ ⟨(blk_cell BK263.out 0).trans rfl, (blk_cell BK263.out 1).trans rfl, (blk_cell BK263.out 2).trans rfl, ((HB.out.cell (World.block_lt_of_cell? w _ hw271_0)).trans hw271_0)⟩ (fun hHeld => ?_)
                clear hK K
                refine norm_ (a' := ?_) ?_ ?_
                rotate_left
                · show Act.put _ (some 26) _ = _
                  simp only [Act.put, List.setIfInBounds_toArray, List.set_cons_zero, List.set_cons_succ, i64_w, i32_w]
                  rfl
                refine one_ (i := 11) (N := some 32) #[true, true, true, true, true, true, true, true, true, true, true, true, false, true, true, false, false, false] rfl rfl (one_of HT_.out (by kernel_rfl)) (by decide) (fun K hK => ?_)
                refine Kd.R_lit_step (Kd.int .i64) _ 3 ?hg (N := 32) ?hd (xs := ([rd l0_1 a1] : List Int)) (inner := [.int .i64 (rd l0_1 a1)]) (ok := fun _ => True) (okp := fun _ => True) ?hr ?hp (fun _ hk => hk) trivial (Below.refl _ _) (Nat.le_refl _) (by simp) ?_; (case hd => rfl); (case hg => rfl); (case hr => first | (go_simp; done) | (go_simp; rfl)); (case hp => exact (Reps.one (show Kd.M (Kd.int .i64) _ _ _ (rd l0_1 a1) [.int .i64 (rd l0_1 a1)] from rfl) (Reps.none _ _)))
                intro v273 w26 ho27 hb hg_ hnew_
                clear hg_ hnew_
                (first | rw [← Ny272.out] at ho27 | (simp only [Int.reduceToNat] at ho27; rw [← Ny272.out] at ho27))
                have n0_ := Aside0.mk (Kd.V_elder' (by exact pV HO_264002.out) (Kd.R_base ho27) hb)
                have n1_ := Aside0.mk (Kd.R_elder' (by exact pR HO270.out) (Kd.R_base ho27) hb)
                have n2_ := Aside0.mk (Kd.R_lower (Kd.R_new' (Kd.R_newM (M := fun k_ => (w.heap.size ≤ k_)) ho27 (below_size (by exact pB HB.out)) (fun k_ h_ => h_)) (Kd.R_lt (by exact pR HO270.out))) (below_size (by exact pB HB.out)))
                have n3_ := Aside0.mk (blk_below (g := gb263) (o := .cells #[.int .i64 a0_0, .slice (some ad271) l0_1.length c0_1, .slice A0_2 l0_2.length c0_2] 24 (0, 0)) (by exact pK BK263.out) hb)
                have n4_ := Aside0.mk (blk_below (g := gb264) (o := .cells #[.int .i64 0, .slice none 0 0, .slice none 0 0] 24 (0, 0)) (by exact pK BK264.out) hb)
                have n5_ := Aside0.mk (below_step (by exact pB HB.out) hb)
                clear HO_264002
                clear HO270
                clear BK263
                clear BK264
                clear HB
                have HO_264002 := n0_
                have HO270 := n1_
                have HO274 := n2_
                have BK263 := n3_
                have BK264 := n4_
                have HB := n5_
                clear n0_ n1_ n2_ n3_ n4_ n5_
                clear hb ho27
                refine hK.out _ _ ⟨(blk_cell BK263.out 0).trans rfl, (blk_cell BK263.out 1).trans rfl, (blk_cell BK263.out 2).trans rfl, ((HB.out.cell (World.block_lt_of_cell? w _ hw271_0)).trans hw271_0)⟩ (fun hHeld => ?_)
                clear hK K
                refine norm_ (a' := ?_) ?_ ?_
                rotate_left
                · show Act.put _ (some 32) _ = _
                  simp only [Act.put, List.setIfInBounds_toArray, List.set_cons_zero, List.set_cons_succ, i64_w, i32_w]
                  rfl
                exact norm_ (by simp only [putAll, Act.put, List.setIfInBounds_toArray, List.set_cons_zero, List.set_cons_succ]) (hCont (v266, v269, v273) _ ⟨hHeld, (by exact pR HO270.out), (by exact pR (Kd.R_mono HO274.out (fun _ hk => ⟨hk.1.1, hk.2⟩))), (by exact pV (Kd.V_mono HO_264002.out (fun _ hk => ⟨hk.1.1.1, ⟨hk.1.2, ⟨hk.2, ⟨hk.1.1.2.1, hk.1.1.2.2⟩⟩⟩⟩))), (by exact pK BK263.out), (by exact pK BK264.out), (by exact pB HB.out)⟩)
              · skip
                refine Kd.R_lit_step (Kd.int .i64) _ 3 ?hg (N := 32) ?hd (xs := ([rd l0_1 a1] : List Int)) (inner := [.int .i64 (rd l0_1 a1)]) (ok := fun _ => True) (okp := fun _ => True) ?hr ?hp (fun _ hk => hk) trivial (Below.refl _ _) (Nat.le_refl _) (by simp) ?_; (case hd => rfl); (case hg => rfl); (case hr => first | (go_simp; done) | (go_simp; rfl)); (case hp => exact (Reps.one (show Kd.M (Kd.int .i64) _ _ _ (rd l0_1 a1) [.int .i64 (rd l0_1 a1)] from rfl) (Reps.none _ _)))
                intro v273 w25 ho26 hb hg_ hnew_
                clear hg_ hnew_
                (first | rw [← Ny272.out] at ho26 | (simp only [Int.reduceToNat] at ho26; rw [← Ny272.out] at ho26))
                have n0_ := Aside0.mk (Kd.V_elder' (by exact pV HO_264002.out) (Kd.R_base ho26) hb)
                have n1_ := Aside0.mk (Kd.R_elder' (by exact pR HO267.out) (Kd.R_base ho26) hb)
                have n2_ := Aside0.mk (Kd.R_lower (Kd.R_new' (Kd.R_newM (M := fun k_ => (w.heap.size ≤ k_)) ho26 (below_size (by exact pB HB.out)) (fun k_ h_ => h_)) (Kd.R_lt (by exact pR HO267.out))) (below_size (by exact pB HB.out)))
                have n3_ := Aside0.mk (blk_below (g := gb263) (o := .cells #[.int .i64 a0_0, .slice (some ad271) l0_1.length c0_1, .slice A0_2 l0_2.length c0_2] 24 (0, 0)) (by exact pK BK263.out) hb)
                have n4_ := Aside0.mk (blk_below (g := gb264) (o := .cells #[.int .i64 0, .slice none 0 0, .slice none 0 0] 24 (0, 0)) (by exact pK BK264.out) hb)
                have n5_ := Aside0.mk (below_step (by exact pB HB.out) hb)
                clear HO_264002
                clear HO267
                clear BK263
                clear BK264
                clear HB
                have HO_264002 := n0_
                have HO267 := n1_
                have HO274 := n2_
                have BK263 := n3_
                have BK264 := n4_
                have HB := n5_
                clear n0_ n1_ n2_ n3_ n4_ n5_
                clear hb ho26
                refine hK.out _ _ ⟨(blk_cell BK263.out 0).trans rfl, (blk_cell BK263.out 1).trans rfl, (blk_cell BK263.out 2).trans rfl, ((HB.out.cell (World.block_lt_of_cell? w _ hw271_0)).trans hw271_0)⟩ (fun hHeld => ?_)
                clear hK K
                refine norm_ (a' := ?_) ?_ ?_
                rotate_left
                · show Act.put _ (some 32) _ = _
                  simp only [Act.put, List.setIfInBounds_toArray, List.set_cons_zero, List.set_cons_succ, i64_w, i32_w]
                  rfl
                refine one_ (i := 5) (N := some 26) #[true, true, true, true, true, true, true, true, true, true, true, true, false, true, true, false, false, false] rfl rfl (one_of HT_.out (by kernel_rfl)) (by decide) (fun K hK => ?_)
                refine Kd.R_append_rows_step (Kd.int .i64) (w0 := w) w.heap.size (by rfl) (.tmp 23) (.tmp 25) 22 3 (.int .i64 0) 8 rfl Try.underlying22 info3 rfl (by decide) (by omega) v266 y265 l0_1 _ _ _ (fun k_ => (w.heap.size ≤ k_) ∧ some k_ ≠ (v273 : Value).ownBlock) (fun _ => False) rfl rfl ?aO ?aR (fun _ _ h => h) (fun _ h => h.elim) ?aF ?aB ?aS ?aL ?_
                (case aR => exact pC (Kd.C_below HR0_1.out HB.out))
                (case aB => exact (by exact pB HB.out))
                (case aF => exact (fun k_ hk => ⟨(Nat.le_trans (below_size (by exact pB HB.out)) hk), Kd.fresh' (Kd.R_lt (by exact pR HO274.out)) k_ hk⟩))
                (case aO => exact (by exact pR (Kd.R_mono HO267.out (fun _ hk => ⟨hk.1.1, hk.2⟩))))
                (case aS => exact (below_size (by exact pB HB.out)))
                (case aL => have := LMc16.out; omega)
                intro v269 w27 ho hb hg hat
                rw [← Ny268.out] at ho
                have n0_ := Aside0.mk (Kd.V_afterv (ok := (fun k_ => (P0_2_ k_ ∨ w.heap.size ≤ k_) ∧ some k_ ≠ (v273 : Value).ownBlock ∧ k_ ≠ gb263 ∧ k_ ≠ gb264)) (by exact pV (Kd.V_mono HO_264002.out (fun _ hk => ⟨⟨hk.1.1.1, ⟨hk.2, ⟨hk.1.1.2.1, hk.1.1.2.2⟩⟩⟩, hk.1.2⟩))) hg hat)
                have n1_ := Aside0.mk (blk_grown (g := gb263) (o := .cells #[.int .i64 a0_0, .slice (some ad271) l0_1.length c0_1, .slice A0_2 l0_2.length c0_2] 24 (0, 0)) (by exact pK BK263.out) hg (Kd.R_ne HO267.out BK263.out (by decide)))
                have n2_ := Aside0.mk (blk_grown (g := gb264) (o := .cells #[.int .i64 0, .slice none 0 0, .slice none 0 0] 24 (0, 0)) (by exact pK BK264.out) hg (Kd.R_ne HO267.out BK264.out (by decide)))
                have n3_ := Aside0.mk (Kd.R_after (ok := (fun k_ => (w.heap.size ≤ k_))) (by exact pR (Kd.R_mono HO274.out (fun _ hk => ⟨hk.1.1, hk.2⟩))) hg hat)
                have n4_ := Aside0.mk (hb)
                have n5_ := Aside0.mk (ho)
                clear HO_264002
                clear BK263
                clear BK264
                clear HO274
                clear HB
                clear HO267
                have HO_264002 := n0_
                have BK263 := n1_
                have BK264 := n2_
                have HO274 := n3_
                have HB := n4_
                have HO270 := n5_
                clear n0_ n1_ n2_ n3_ n4_ n5_
                clear ho hb hg hat
                refine hK.out _ _ ⟨(blk_cell BK263.out 0).trans rfl, (blk_cell BK263.out 1).trans rfl, (blk_cell BK263.out 2).trans rfl, ((HB.out.cell (World.block_lt_of_cell? w _ hw271_0)).trans hw271_0)⟩ (fun hHeld => ?_)
                clear hK K
                refine norm_ (a' := ?_) ?_ ?_
                rotate_left
                · show Act.put _ (some 26) _ = _
                  simp only [Act.put, List.setIfInBounds_toArray, List.set_cons_zero, List.set_cons_succ, i64_w, i32_w]
                  rfl
                exact norm_ (by simp only [putAll, Act.put, List.setIfInBounds_toArray, List.set_cons_zero, List.set_cons_succ]) (hCont (v266, v269, v273) _ ⟨hHeld, (by exact pR HO270.out), (by exact pR HO274.out), (by exact pV (Kd.V_mono HO_264002.out (fun _ hk => ⟨hk.1.1, ⟨hk.2, ⟨hk.1.2.1, ⟨hk.1.2.2.1, hk.1.2.2.2⟩⟩⟩⟩))), (by exact pK BK263.out), (by exact pK BK264.out), (by exact pB HB.out)⟩)
            · skip
              refine Kd.R_lit_step (Kd.int .i64) _ 3 ?hg (N := 32) ?hd (xs := ([rd l0_1 a1] : List Int)) (inner := [.int .i64 (rd l0_1 a1)]) (ok := fun _ => True) (okp := fun _ => True) ?hr ?hp (fun _ hk => hk) trivial (Below.refl _ _) (Nat.le_refl _) (by simp) ?_; (case hd => rfl); (case hg => rfl); (case hr => first | (go_simp; done) | (go_simp; rfl)); (case hp => exact (Reps.one (show Kd.M (Kd.int .i64) _ _ _ (rd l0_1 a1) [.int .i64 (rd l0_1 a1)] from rfl) (Reps.none _ _)))
              intro v273 w23 ho24 hb hg_ hnew_
              clear hg_ hnew_
              (first | rw [← Ny272.out] at ho24 | (simp only [Int.reduceToNat] at ho24; rw [← Ny272.out] at ho24))
              have n0_ := Aside0.mk (Kd.V_elder' (by exact pV HO_264002.out) (Kd.R_base ho24) hb)
              have n1_ := Aside0.mk (Kd.R_lower (Kd.R_newM (M := fun k_ => (w.heap.size ≤ k_)) ho24 (below_size (by exact pB HB.out)) (fun k_ h_ => h_)) (below_size (by exact pB HB.out)))
              have n2_ := Aside0.mk (blk_below (g := gb263) (o := .cells #[.int .i64 a0_0, .slice (some ad271) l0_1.length c0_1, .slice A0_2 l0_2.length c0_2] 24 (0, 0)) (by exact pK BK263.out) hb)
              have n3_ := Aside0.mk (blk_below (g := gb264) (o := .cells #[.int .i64 0, .slice none 0 0, .slice none 0 0] 24 (0, 0)) (by exact pK BK264.out) hb)
              have n4_ := Aside0.mk (below_step (by exact pB HB.out) hb)
              clear HO_264002
              clear BK263
              clear BK264
              clear HB
              have HO_264002 := n0_
              have HO274 := n1_
              have BK263 := n2_
              have BK264 := n3_
              have HB := n4_
              clear n0_ n1_ n2_ n3_ n4_
              clear hb ho24
              refine hK.out _ _ ⟨(blk_cell BK263.out 0).trans rfl, (blk_cell BK263.out 1).trans rfl, (blk_cell BK263.out 2).trans rfl, ((HB.out.cell (World.block_lt_of_cell? w _ hw271_0)).trans hw271_0)⟩ (fun hHeld => ?_)
              clear hK K
              refine norm_ (a' := ?_) ?_ ?_
              rotate_left
              · show Act.put _ (some 32) _ = _
                simp only [Act.put, List.setIfInBounds_toArray, List.set_cons_zero, List.set_cons_succ, i64_w, i32_w]
                rfl
              refine one_ (i := 2) (N := some 23) #[true, true, true, true, true, false, true, true, true, true, true, true, false, true, true, false, false, false] rfl rfl (one_of HT_.out (by kernel_rfl)) (by decide) (fun K hK => ?_)
              refine Kd.R_lit_step (Kd.int .i64) _ 3 ?hg (N := 23) ?hd (xs := ([] : List Int)) (inner := []) (ok := fun _ => True) (okp := fun _ => True) ?hr ?hp (fun _ hk => hk) trivial (Below.refl _ _) (Nat.le_refl _) (by simp) ?_; (case hd => rfl); (case hg => rfl); (case hr => first | (go_simp; done) | (go_simp; rfl)); (case hp => exact (Reps.none _ _))
              intro v266 w25 ho26 hb hg_ hnew_
              clear hg_ hnew_
              (first | rw [← Ny265.out] at ho26 | (simp only [Int.reduceToNat] at ho26; rw [← Ny265.out] at ho26))
              have n0_ := Aside0.mk (Kd.V_elder' (by exact pV HO_264002.out) (Kd.R_base ho26) hb)
              have n1_ := Aside0.mk (Kd.R_elder' (by exact pR HO274.out) (Kd.R_base ho26) hb)
              have n2_ := Aside0.mk (Kd.R_lower (Kd.R_new' (Kd.R_newM (M := fun k_ => (w.heap.size ≤ k_)) ho26 (below_size (by exact pB HB.out)) (fun k_ h_ => h_)) (Kd.R_lt (by exact pR HO274.out))) (below_size (by exact pB HB.out)))
              have n3_ := Aside0.mk (blk_below (g := gb263) (o := .cells #[.int .i64 a0_0, .slice (some ad271) l0_1.length c0_1, .slice A0_2 l0_2.length c0_2] 24 (0, 0)) (by exact pK BK263.out) hb)
              have n4_ := Aside0.mk (blk_below (g := gb264) (o := .cells #[.int .i64 0, .slice none 0 0, .slice none 0 0] 24 (0, 0)) (by exact pK BK264.out) hb)
              have n5_ := Aside0.mk (below_step (by exact pB HB.out) hb)
              clear HO_264002
              clear HO274
              clear BK263
              clear BK264
              clear HB
              have HO_264002 := n0_
              have HO274 := n1_
              have HO267 := n2_
              have BK263 := n3_
              have BK264 := n4_
              have HB := n5_
              clear n0_ n1_ n2_ n3_ n4_ n5_
              clear hb ho26
              refine hK.out _ _ ⟨(blk_cell BK263.out 0).trans rfl, (blk_cell BK263.out 1).trans rfl, (blk_cell BK263.out 2).trans rfl, ((HB.out.cell (World.block_lt_of_cell? w _ hw271_0)).trans hw271_0)⟩ (fun hHeld => ?_)
              clear hK K
              refine norm_ (a' := ?_) ?_ ?_
              rotate_left
              · show Act.put _ (some 23) _ = _
                simp only [Act.put, List.setIfInBounds_toArray, List.set_cons_zero, List.set_cons_succ, i64_w, i32_w]
                rfl
              refine one_ (i := 5) (N := some 26) #[true, true, true, true, true, true, true, true, true, true, true, true, false, true, true, false, false, false] rfl rfl (one_of HT_.out (by kernel_rfl)) (by decide) (fun K hK => ?_)
              refine Kd.R_append_rows_step (Kd.int .i64) (w0 := w) w.heap.size (by rfl) (.tmp 23) (.tmp 25) 22 3 (.int .i64 0) 8 rfl Try.underlying22 info3 rfl (by decide) (by omega) v266 y265 l0_1 _ _ _ (fun k_ => (w.heap.size ≤ k_) ∧ some k_ ≠ (v273 : Value).ownBlock) (fun _ => False) rfl rfl ?aO ?aR (fun _ _ h => h) (fun _ h => h.elim) ?aF ?aB ?aS ?aL ?_
              (case aR => exact pC (Kd.C_below HR0_1.out HB.out))
              (case aB => exact (by exact pB HB.out))
              (case aF => exact (fun k_ hk => ⟨(Nat.le_trans (below_size (by exact pB HB.out)) hk), Kd.fresh' (Kd.R_lt (by exact pR HO274.out)) k_ hk⟩))
              (case aO => exact (by exact pR (Kd.R_mono HO267.out (fun _ hk => ⟨hk.1.1, hk.2⟩))))
              (case aS => exact (below_size (by exact pB HB.out)))
              (case aL => have := LMc16.out; omega)
              intro v269 w27 ho hb hg hat
              rw [← Ny268.out] at ho
              have n0_ := Aside0.mk (Kd.V_afterv (ok := (fun k_ => (P0_2_ k_ ∨ w.heap.size ≤ k_) ∧ some k_ ≠ (v273 : Value).ownBlock ∧ k_ ≠ gb263 ∧ k_ ≠ gb264)) (by exact pV (Kd.V_mono HO_264002.out (fun _ hk => ⟨⟨hk.1.1.1, ⟨hk.1.2, ⟨hk.1.1.2.1, hk.1.1.2.2⟩⟩⟩, hk.2⟩))) hg hat)
              have n1_ := Aside0.mk (blk_grown (g := gb263) (o := .cells #[.int .i64 a0_0, .slice (some ad271) l0_1.length c0_1, .slice A0_2 l0_2.length c0_2] 24 (0, 0)) (by exact pK BK263.out) hg (Kd.R_ne HO267.out BK263.out (by decide)))
              have n2_ := Aside0.mk (blk_grown (g := gb264) (o := .cells #[.int .i64 0, .slice none 0 0, .slice none 0 0] 24 (0, 0)) (by exact pK BK264.out) hg (Kd.R_ne HO267.out BK264.out (by decide)))
              have n3_ := Aside0.mk (Kd.R_after (ok := (fun k_ => (w.heap.size ≤ k_))) (by exact pR (Kd.R_mono HO274.out (fun _ hk => ⟨hk.1.1, hk.2⟩))) hg hat)
              have n4_ := Aside0.mk (hb)
              have n5_ := Aside0.mk (ho)
              clear HO_264002
              clear BK263
              clear BK264
              clear HO274
              clear HB
              clear HO267
              have HO_264002 := n0_
              have BK263 := n1_
              have BK264 := n2_
              have HO274 := n3_
              have HB := n4_
              have HO270 := n5_
              clear n0_ n1_ n2_ n3_ n4_ n5_
              clear ho hb hg hat
              refine hK.out _ _ ⟨(blk_cell BK263.out 0).trans rfl, (blk_cell BK263.out 1).trans rfl, (blk_cell BK263.out 2).trans rfl, ((HB.out.cell (World.block_lt_of_cell? w _ hw271_0)).trans hw271_0)⟩ (fun hHeld => ?_)
              clear hK K
              refine norm_ (a' := ?_) ?_ ?_
              rotate_left
              · show Act.put _ (some 26) _ = _
                simp only [Act.put, List.setIfInBounds_toArray, List.set_cons_zero, List.set_cons_succ, i64_w, i32_w]
                rfl
              exact norm_ (by simp only [putAll, Act.put, List.setIfInBounds_toArray, List.set_cons_zero, List.set_cons_succ]) (hCont (v266, v269, v273) _ ⟨hHeld, (by exact pR HO270.out), (by exact pR HO274.out), (by exact pV (Kd.V_mono HO_264002.out (fun _ hk => ⟨hk.1.1, ⟨hk.2, ⟨hk.1.2.1, ⟨hk.1.2.2.1, hk.1.2.2.2⟩⟩⟩⟩))), (by exact pK BK263.out), (by exact pK BK264.out), (by exact pB HB.out)⟩)
          rintro ⟨v266, v269, v273⟩ w28 ⟨hS_, h0_, h1_, h2_, h3_, h4_, h5_⟩
          have n0_ : Aside0 (Kd.R (Kd.int .i64) 3 w28 w.heap.size (fun k_ => (w.heap.size ≤ k_) ∧ some k_ ≠ (v273 : Value).ownBlock) v269 y268) := ⟨h0_⟩
          have n1_ : Aside0 (Kd.R (Kd.int .i64) 3 w28 w.heap.size (fun k_ => (w.heap.size ≤ k_) ∧ some k_ ≠ (v269 : Value).ownBlock) v273 y272) := ⟨h1_⟩
          have n2_ : Aside0 (Kd.V (Kd.int .i64) 3 w28 w.heap.size (fun k_ => (P0_2_ k_ ∨ w.heap.size ≤ k_) ∧ some k_ ≠ (v269 : Value).ownBlock ∧ some k_ ≠ (v273 : Value).ownBlock ∧ k_ ≠ gb263 ∧ k_ ≠ gb264) (.slice A0_2 l0_2.length c0_2) l0_2) := ⟨h2_⟩
          have n3_ : Aside0 (w28.heap[gb263]? = some (.cells #[.int .i64 a0_0, .slice (some ad271) l0_1.length c0_1, .slice A0_2 l0_2.length c0_2] 24 (0, 0))) := ⟨h3_⟩
          have n4_ : Aside0 (w28.heap[gb264]? = some (.cells #[.int .i64 0, .slice none 0 0, .slice none 0 0] 24 (0, 0))) := ⟨h4_⟩
          have n5_ : Aside0 (Below w.heap.size w w28) := ⟨h5_⟩
          clear HO_264002
          clear BK263
          clear BK264
          clear HB
          clear h0_ h1_ h2_ h3_ h4_ h5_
          have HO270 := n0_
          have HO274 := n1_
          have HO_264002 := n2_
          have BK263 := n3_
          have BK264 := n4_
          have HB := n5_
          clear n0_ n1_ n2_ n3_ n4_ n5_
          have hHeld : w28.cell? ⟨gb263, 0, none⟩ = some (.int .i64 a0_0) ∧ w28.cell? ⟨gb263, 1, none⟩ = some (.slice (some ad271) l0_1.length c0_1) ∧ w28.cell? ⟨gb263, 2, none⟩ = some (.slice A0_2 l0_2.length c0_2) ∧ w28.cell? (ad271.add (a1).toNat) = some (.int .i64 (rd l0_1 a1)) := hS_
          obtain ⟨Ao30, co30, eo30⟩ := Kd.R_slice HO274.out
          (first | subst eo30 | (injection eo30 with f1_ f2_ f3_; have f4_ := f1_.symm; have f5_ := f3_.symm; clear f1_ f2_ f3_; subst f4_; subst f5_))
          refine norm_ (a' := ?_) ?_ ?_
          rotate_left
          · simp only [putAll, Act.put, List.setIfInBounds_toArray, List.set_cons_zero, List.set_cons_succ]
            rfl
          refine one_ (i := 12) (N := some 33) #[true, true, true, true, true, true, true, true, true, true, true, true, true, true, true, false, false, false] rfl rfl (one_of HT_.out (by kernel_rfl)) (by decide) (fun K hK => ?_)
          refine Kd.R_append_rows_step (Kd.int .i64) (w0 := w) w.heap.size (by rfl) (.tmp 26) (.tmp 32) 22 3 (.int .i64 0) 8 rfl Try.underlying22 info3 rfl (by decide) (by omega) v269 y268 y272 _ _ _ (fun k_ => (w.heap.size ≤ k_) ∧ some k_ ≠ (.slice Ao30 y272.length co30 : Value).ownBlock) (fun _ => False) rfl rfl ?aO ?aR (fun _ _ h => h) (fun _ h => h.elim) ?aF ?aB ?aS ?aL ?_
          (case aR => exact pC (Kd.R_reads' HO274.out).2.2)
          (case aB => exact (by exact pB HB.out))
          (case aF => exact (fun k_ hk => ⟨(Nat.le_trans (below_size (by exact pB HB.out)) hk), Kd.fresh' (Kd.R_lt (by exact pR HO274.out)) k_ hk⟩))
          (case aO => exact (by exact pR HO270.out))
          (case aS => exact (below_size (by exact pB HB.out)))
          (case aL => have := LMc19.out; omega)
          intro v276 w29 ho hb hg hat
          rw [← Ny275.out] at ho
          have n0_ := Aside0.mk (Kd.V_afterv (ok := (fun k_ => (P0_2_ k_ ∨ w.heap.size ≤ k_) ∧ some k_ ≠ (.slice Ao30 y272.length co30 : Value).ownBlock ∧ k_ ≠ gb263 ∧ k_ ≠ gb264)) (by exact pV (Kd.V_mono HO_264002.out (fun _ hk => ⟨⟨hk.1, ⟨hk.2.2.1, ⟨hk.2.2.2.1, hk.2.2.2.2⟩⟩⟩, hk.2.1⟩))) hg hat)
          have n1_ := Aside0.mk (blk_grown (g := gb263) (o := .cells #[.int .i64 a0_0, .slice (some ad271) l0_1.length c0_1, .slice A0_2 l0_2.length c0_2] 24 (0, 0)) (by exact pK BK263.out) hg (Kd.R_ne HO270.out BK263.out (by decide)))
          have n2_ := Aside0.mk (blk_grown (g := gb264) (o := .cells #[.int .i64 0, .slice none 0 0, .slice none 0 0] 24 (0, 0)) (by exact pK BK264.out) hg (Kd.R_ne HO270.out BK264.out (by decide)))
          have n3_ := Aside0.mk (Kd.R_after (ok := (fun k_ => (w.heap.size ≤ k_))) (by exact pR HO274.out) hg hat)
          have n4_ := Aside0.mk (hb)
          have n5_ := Aside0.mk (ho)
          clear HO_264002
          clear BK263
          clear BK264
          clear HO274
          clear HB
          clear HO270
          have HO_264002 := n0_
          have BK263 := n1_
          have BK264 := n2_
          have HO274 := n3_
          have HB := n4_
          have HO277 := n5_
          clear n0_ n1_ n2_ n3_ n4_ n5_
          clear ho hb hg hat
          obtain ⟨Ao31, co31, eo31⟩ := Kd.R_slice HO277.out
          (first | subst eo31 | (injection eo31 with f1_ f2_ f3_; have f4_ := f1_.symm; have f5_ := f3_.symm; clear f1_ f2_ f3_; subst f4_; subst f5_))
          refine hK.out _ _ ⟨(blk_cell BK263.out 0).trans rfl, (blk_cell BK263.out 1).trans rfl, (blk_cell BK263.out 2).trans rfl, ((HB.out.cell (World.block_lt_of_cell? w _ hw271_0)).trans hw271_0)⟩ (fun hHeld => ?_)
          clear hK K
          refine norm_ (a' := ?_) ?_ ?_
          rotate_left
          · show Act.put _ (some 33) _ = _
            simp only [Act.put, List.setIfInBounds_toArray, List.set_cons_zero, List.set_cons_succ, i64_w, i32_w]
            rfl
          refine pure_ (i := 15) (N := some 36) (v := ?_) (a' := ?_) #[true, true, true, true, true, true, true, true, true, true, true, true, true, true, true, true, false, false] rfl rfl (any_of HT_.out (by kernel_rfl)) (fun _ _ _ h => h) (Or.inl ⟨by rfl, ?_⟩) ?_ ?_
          rotate_left
          · intro w'
            go_simp
            with_reducible rfl
          rotate_left
          · simp only [Act.put, List.setIfInBounds_toArray, List.set_cons_zero, List.set_cons_succ, i64_w, i32_w]
            rfl
          refine one_ (i := 16) (N := none) #[true, true, true, true, true, true, true, true, true, true, true, true, true, true, true, true, true, false] rfl rfl (one_of HT_.out (by kernel_rfl)) (by decide) (fun K hK => ?_)
          have hs32 : w29.cell? ⟨gb264, 0, none⟩ = some (.int .i64 0) := (blk_cell BK264.out 0).trans rfl
          have hfs32 := blk_frozen BK264.out 0
          have hns32_0 := NB263_264.out
          have hms32_0 := NB264_263.out
          have hs33 : w29.cell? ⟨gb264, 1, none⟩ = some (.slice none 0 0) := (blk_cell BK264.out 1).trans rfl
          have hfs33 := blk_frozen BK264.out 1
          have hns33_0 := NB263_264.out
          have hms33_0 := NB264_263.out
          have hs34 : w29.cell? ⟨gb264, 2, none⟩ = some (.slice none 0 0) := (blk_cell BK264.out 2).trans rfl
          have hfs34 := blk_frozen BK264.out 2
          have hns34_0 := NB263_264.out
          have hms34_0 := NB264_263.out
          refine skip_ (w1 := ?_) (by rfl) rfl ?_ ?_
          rotate_left
          · go_simp
            rfl
          refine hK.out _ _ ⟨((cell_far (p := ⟨gb264, _, none⟩) NB263_264.out _).trans (((cell_far (p := ⟨gb264, _, none⟩) NB263_264.out _).trans (((cell_far (p := ⟨gb264, _, none⟩) NB263_264.out _).trans (hHeld.1)))))), ((cell_far (p := ⟨gb264, _, none⟩) NB263_264.out _).trans (((cell_far (p := ⟨gb264, _, none⟩) NB263_264.out _).trans (((cell_far (p := ⟨gb264, _, none⟩) NB263_264.out _).trans (hHeld.2.1)))))), ((cell_far (p := ⟨gb264, _, none⟩) NB263_264.out _).trans (((cell_far (p := ⟨gb264, _, none⟩) NB263_264.out _).trans (((cell_far (p := ⟨gb264, _, none⟩) NB263_264.out _).trans (hHeld.2.2.1)))))), ((cell_far (p := ⟨gb264, _, none⟩) (by first | exact Nat.ne_of_lt (Nat.lt_of_lt_of_le (by have := World.block_lt_of_cell? _ _ hw271_0; first | rwa [add_block] at this | exact this) GW264.out) | (rw [add_block]; exact Nat.ne_of_lt (Nat.lt_of_lt_of_le (by have := World.block_lt_of_cell? _ _ hw271_0; first | rwa [add_block] at this | exact this) GW264.out)) | (show (Addr.add _ _).block ≠ _; rw [add_block]; exact Nat.ne_of_lt (Nat.lt_of_lt_of_le (by have := World.block_lt_of_cell? _ _ hw271_0; first | rwa [add_block] at this | exact this) GW264.out)) | (dsimp only; exact Nat.ne_of_lt (Nat.lt_of_lt_of_le (by have := World.block_lt_of_cell? _ _ hw271_0; first | rwa [add_block] at this | exact this) GW264.out))) _).trans (((cell_far (p := ⟨gb264, _, none⟩) (by first | exact Nat.ne_of_lt (Nat.lt_of_lt_of_le (by have := World.block_lt_of_cell? _ _ hw271_0; first | rwa [add_block] at this | exact this) GW264.out) | (rw [add_block]; exact Nat.ne_of_lt (Nat.lt_of_lt_of_le (by have := World.block_lt_of_cell? _ _ hw271_0; first | rwa [add_block] at this | exact this) GW264.out)) | (show (Addr.add _ _).block ≠ _; rw [add_block]; exact Nat.ne_of_lt (Nat.lt_of_lt_of_le (by have := World.block_lt_of_cell? _ _ hw271_0; first | rwa [add_block] at this | exact this) GW264.out)) | (dsimp only; exact Nat.ne_of_lt (Nat.lt_of_lt_of_le (by have := World.block_lt_of_cell? _ _ hw271_0; first | rwa [add_block] at this | exact this) GW264.out))) _).trans (((cell_far (p := ⟨gb264, _, none⟩) (by first | exact Nat.ne_of_lt (Nat.lt_of_lt_of_le (by have := World.block_lt_of_cell? _ _ hw271_0; first | rwa [add_block] at this | exact this) GW264.out) | (rw [add_block]; exact Nat.ne_of_lt (Nat.lt_of_lt_of_le (by have := World.block_lt_of_cell? _ _ hw271_0; first | rwa [add_block] at this | exact this) GW264.out)) | (show (Addr.add _ _).block ≠ _; rw [add_block]; exact Nat.ne_of_lt (Nat.lt_of_lt_of_le (by have := World.block_lt_of_cell? _ _ hw271_0; first | rwa [add_block] at this | exact this) GW264.out)) | (dsimp only; exact Nat.ne_of_lt (Nat.lt_of_lt_of_le (by have := World.block_lt_of_cell? _ _ hw271_0; first | rwa [add_block] at this | exact this) GW264.out))) _).trans (hHeld.2.2.2))))))⟩ (fun hHeld => ?_)
          clear hK K
          refine pure_ (i := 17) (N := some 5) (v := ?_) (a' := ?_) #[true, true, true, true, true, true, true, true, true, true, true, true, true, true, true, true, true, true] rfl rfl (any_of HT_.out (by kernel_rfl)) (fun _ _ _ h => h) (Or.inl ⟨by rfl, ?_⟩) ?_ ?_
          rotate_left
          · intro w'
            go_simp
            with_reducible rfl
          rotate_left
          · simp only [Act.put, List.setIfInBounds_toArray, List.set_cons_zero, List.set_cons_succ, i64_w, i32_w]
            rfl
          refine done_ (done_of HT_.out (by kernel_rfl)) ?_
          try go_wp2
          refine bodyPost_ret (results_ct rfl _ _ gb264 24 #[.int .i64 a0_0, .slice Ao31 y275.length co31, .slice A0_2 l0_2.length c0_2] (0, 0) _ rfl (by (with_reducible repeat (first | refine blk_drewN ?_ _ | refine blk_drew ?_ | refine blk_alloc ?_ _)); refine blk_put (cs := #[.int .i64 a0_0, .slice Ao31 y275.length co31, .slice none 0 0]) ?_ 2 _ rfl; (with_reducible repeat (first | refine blk_drewN ?_ _ | refine blk_drew ?_ | refine blk_alloc ?_ _)); refine blk_put (cs := #[.int .i64 a0_0, .slice none 0 0, .slice none 0 0]) ?_ 1 _ rfl; (with_reducible repeat (first | refine blk_drewN ?_ _ | refine blk_drew ?_ | refine blk_alloc ?_ _)); refine blk_put (cs := #[.int .i64 0, .slice none 0 0, .slice none 0 0]) ?_ 0 _ rfl; (with_reducible repeat (first | refine blk_drewN ?_ _ | refine blk_drew ?_ | refine blk_alloc ?_ _)); exact BK264.out) Try.underlying24 rfl (by kernel_rfl)) rfl ?_
          exact ⟨_, _, by first | rfl | (simp [errW_none, errW_some] <;> rfl) | (simp [*, errW_none, errW_some] <;> rfl), by (with_reducible repeat (first | apply Kd.R_alloc | apply Kd.R_drewN | apply Kd.R_drew)); exact Kd.R_mono (Kd.R_far (p := ⟨gb264, 2, none⟩) (Kd.R_far (p := ⟨gb264, 1, none⟩) (Kd.R_far (p := ⟨gb264, 0, none⟩) (Kd.R_types HO277.out BK264.out (by decide)) (fun _ hk => hk.2) (.int .i64 a0_0)) (fun _ hk => hk.2) (.slice Ao31 y275.length co31)) (fun _ hk => hk.2) (.slice A0_2 l0_2.length c0_2)) (fun _ hk => hk.1.1), by (with_reducible repeat (first | apply Kd.V_alloc | apply Kd.V_drewN | apply Kd.V_drew)); exact Kd.V_mono (Kd.V_far (p := ⟨gb264, 2, none⟩) (Kd.V_far (p := ⟨gb264, 1, none⟩) (Kd.V_far (p := ⟨gb264, 0, none⟩) (Kd.V_mono HO_264002.out (fun k_ hk => (⟨hk, hk.1.2.2.2⟩ : _ ∧ k_ ≠ gb264))) (fun _ hk => hk.2) (.int .i64 a0_0)) (fun _ hk => hk.2) (.slice Ao31 y275.length co31)) (fun _ hk => hk.2) (.slice A0_2 l0_2.length c0_2)) (fun _ hk => ⟨hk.1.1.1, hk.1.2⟩), by repeat (first | (with_reducible first | exact HB.out | apply below_alloc | apply pw_below_drewN | apply below_drew1 | refine below_set ?_ GE263.out | refine below_set ?_ GE264.out) | exact HB.out)⟩

end Go.Proofs.Ytlhmgigjbeefbaa.PChannelSteps
