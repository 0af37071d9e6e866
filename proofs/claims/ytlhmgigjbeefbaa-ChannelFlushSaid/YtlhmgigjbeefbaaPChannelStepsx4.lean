-- Printed by a patched copy of the kit's printer (wip/prt); nothing here is trusted, Lean checks it.
import Derived.Test.YtlhmgigjbeefbaaPChannelStepsx0
import Derived.Test.YtlhmgigjbeefbaaPChannelStepsx3
namespace Go.Proofs.Ytlhmgigjbeefbaa.PChannelSteps
open Go.RowKit Go.Proofs.YtlhmgigjbeefbaaW.PrintWords Go.Proofs.YtlhmgigjbeefbaaW.PrintLast Go.Proofs.YtlhmgigjbeefbaaW.PrintMore
attribute [local go_sem] max2_int min2_int max_two min_two max_three min_three max_four min_four   -- for this text's walks alone
set_option linter.unusedVariables false
set_option linter.unusedSimpArgs false

/-! ### customsref33_Deliver: function 16 -/
def customsref33_Deliver.j0 : Nat → Int → Int → Bool → Int → List Int → List Int → Option (Int × List Int × List Int × Int × Int)
  | 0, _, _, _, _, _, _ => none
  | k + 1, x1, x2, x27, x199000, x199001, x199002 => if x27 = true then (some (0, ([] : List Int), ([] : List Int), 0, 2)) else (if 0 ≤ x1 then (if x1 < (x199001.length : Int) then (if (rd x199001 x1) = (wrap64 (x2 + 1)) then ((customsref33_out.f x199001 x1).bind fun t201 => ((some (([] : List Int) : List Int)).bind fun y204 => (if y204.length + x199002.length < 17592186044416 then ((some (y204 ++ x199002 : List Int)).bind fun y207 => ((some (([rd x199001 x1] : List Int) : List Int)).bind fun y210 => (if y207.length + y210.length < 17592186044416 then (some (x199000, t201, (y207 ++ y210), rd x199001 x1, 0)) else (none)))) else (none)))) else ((customsref33_out.f x199001 x1).bind fun t216 => ((some (([] : List Int) : List Int)).bind fun y219 => (if y219.length + x199002.length < 17592186044416 then ((some (y219 ++ x199002 : List Int)).bind fun y222 => ((some (([x2] : List Int) : List Int)).bind fun y225 => (if y222.length + y225.length < 17592186044416 then (some (x199000, t216, (y222 ++ y225), rd x199001 x1, 0)) else (none)))) else (none))))) else (none)) else (none))
def customsref33_Deliver.f (k : Nat) (a0_0 : Int) (l0_1 : List Int) (l0_2 : List Int) (a1 : Int) (a2 : Int) : Option (Int × List Int × List Int × Int × Int) := if a1 < 0 then (customsref33_Deliver.j0 k a1 a2 true a0_0 l0_1 l0_2) else (if a1 ≥ (l0_1.length : Int) then (customsref33_Deliver.j0 k a1 a2 true a0_0 l0_1 l0_2) else (if a2 < 0 then (customsref33_Deliver.j0 k a1 a2 true a0_0 l0_1 l0_2) else (customsref33_Deliver.j0 k a1 a2 (decide (a2 > 1000000)) a0_0 l0_1 l0_2)))
theorem customsref33_Deliver.mono_l : ∀ k, (∀ y0 y1 y2 y3 y4 y5, LeO (customsref33_Deliver.j0 k y0 y1 y2 y3 y4 y5) (customsref33_Deliver.j0 (k + 1) y0 y1 y2 y3 y4 y5))
  | 0 => fun _ _ _ _ _ _ r h => by simp [customsref33_Deliver.j0] at h
  | k + 1 => by
    have ih0 := customsref33_Deliver.mono_l k
    · intro y0 y1 y2 y3 y4 y5
      unfold customsref33_Deliver.j0
      repeat' first
      | (with_reducible exact ih0 _ _ _ _ _ _)
      | (with_reducible exact LeO.refl _)
      | (with_reducible exact LeO.none _)
      | (with_reducible refine LeO.ite ?_ ?_)
      | (with_reducible refine LeO.bind ?_ (fun _ => ?_))
      | exact ih0 _ _ _ _ _ _
      | exact LeO.none _
      | refine LeO.ite ?_ ?_
      | refine LeO.bind ?_ (fun _ => ?_)
theorem customsref33_Deliver.mono : ∀ a0 a1 a2 a3 a4 k, LeO (customsref33_Deliver.f k a0 a1 a2 a3 a4) (customsref33_Deliver.f (k + 1) a0 a1 a2 a3 a4) := by
  intro a0 a1 a2 a3 a4 k
  have ih0 := customsref33_Deliver.mono_l k
  unfold customsref33_Deliver.f
  repeat' first
      | (with_reducible exact ih0 _ _ _ _ _ _)
      | (with_reducible exact LeO.refl _)
      | (with_reducible exact LeO.none _)
      | (with_reducible refine LeO.ite ?_ ?_)
      | (with_reducible refine LeO.bind ?_ (fun _ => ?_))
      | exact ih0 _ _ _ _ _ _
      | exact LeO.none _
      | refine LeO.ite ?_ ?_
      | refine LeO.bind ?_ (fun _ => ?_)
def customsref33_Deliver.T7 : Bool × List (List Nat × List Nat) := (true, [([], []), ([0], [0]), ([], []), ([2], [2]), ([], []), ([3, 4], [3, 4]), ([], []), ([], []), ([7], [7]), ([6, 8, 5], [6, 8]), ([], []), ([10], [10]), ([9, 11, 9], [9, 11]), ([1, 5, 12], [1, 5, 12]), ([], []), ([13, 12, 0, 1, 2, 3, 4, 5, 6, 7, 8, 9, 10, 11, 12, 13], [13]), ([14, 15, 0, 1, 2, 3, 4, 5, 6, 7, 8, 9, 10, 11, 12, 13, 14, 15], [14]), ([16, 0, 1, 2, 3, 4, 5, 6, 7, 8, 9, 10, 11, 12, 13, 14, 15, 16], [])])
def customsref33_Deliver.B7 : List Nat := [0, 1, 0, 4, 0, 28, 0, 0, 128, 508, 0, 1024, 4092, 8191, 0, 16383, 65535, 131071]
theorem customsref33_Deliver.tab7 : rtab .any (opsOf Try.f16 7) = customsref33_Deliver.T7 := by kernel_rfl
theorem customsref33_Deliver.bits7 : waitsOk customsref33_Deliver.T7.2 customsref33_Deliver.B7 = true := by kernel_rfl
set_option maxHeartbeats 8000000 in
set_option maxRecDepth 100000 in
theorem customsref33_Deliver.calls (k : Nat) (a0_0 : Int) (A0_1 : Option Addr) (c0_1 : Nat) (l0_1 : List Int) (A0_2 : Option Addr) (c0_2 : Nat) (l0_2 : List Int) (a1 : Int) (a2 : Int) (r1 : Int) (r2 : List Int) (r3 : List Int) (r4 : Int) (r5 : Int) (w : World) (hr0_1 : Kd.C (Kd.int .i64) w A0_1 l0_1.length l0_1) (hc0_1 : l0_1.length ≤ c0_1) (hr0_2 : Kd.C (Kd.int .i64) w A0_2 l0_2.length l0_2) (hc0_2 : l0_2.length ≤ c0_2) (h : customsref33_Deliver.f k a0_0 l0_1 l0_2 a1 a2 = some (r1, r2, r3, r4, r5)) :
    Calls Try.prog 16 #[.agg #[.int .i64 a0_0, .slice A0_1 l0_1.length c0_1, .slice A0_2 l0_2.length c0_2], .int .i64 a1, .int .i64 a2] w fun e w' => ∃ v1_ v2_ : Value, e = .returned (.tuple #[.agg #[.int .i64 r1, v1_, v2_], .int .i64 r4, .int .i64 r5]) ∧ Kd.R (Kd.int .i64) 3 w' w.heap.size (fun k_ => some k_ ≠ (v2_ : Value).ownBlock) v1_ r2 ∧ Kd.R (Kd.int .i64) 3 w' w.heap.size (fun k_ => some k_ ≠ (v1_ : Value).ownBlock) v2_ r3 ∧ Below w.heap.size w w' := by
  have hu24 := Try.underlying24
  have HR0_1 := Aside0.mk hr0_1
  have HC0_1 := Aside0.mk hc0_1
  clear hr0_1 hc0_1
  have HR0_2 := Aside0.mk hr0_2
  have HC0_2 := Aside0.mk hc0_2
  clear hr0_2 hc0_2
  have HB := Aside0.mk (Below.refl w.heap.size w)
  have H : (if a1 < 0 then (customsref33_Deliver.j0 k a1 a2 true a0_0 l0_1 l0_2) else (if a1 ≥ (l0_1.length : Int) then (customsref33_Deliver.j0 k a1 a2 true a0_0 l0_1 l0_2) else (if a2 < 0 then (customsref33_Deliver.j0 k a1 a2 true a0_0 l0_1 l0_2) else (customsref33_Deliver.j0 k a1 a2 (decide (a2 > 1000000)) a0_0 l0_1 l0_2)))) = some (r1, r2, r3, r4, r5) := h
  clear h
  have HC4 := Aside0.mk H
  clear H
  go_enter Try.func16, Try.ntmps16
  go_upto_region 1 with (first | ((with_reducible refine gate_dst (N := 3) rfl ?_); (try (refine gate_guard (by rfl) ?_; dsimp only)); refine box_event ?hg (N := 3) ?hd (cs := #[.int .i64 a0_0, .slice A0_1 l0_1.length c0_1, .slice A0_2 l0_2.length c0_2]) (t := 24) ?hr ?_; (case hd => rfl); (case hg => rfl); (case hr => first | (go_simp; done) | (go_simp; rfl)); intro gb198 hg w5 hbox hb; have n0_ := Aside0.mk (below_step (by exact pB HB.out) hb); have n1_ := Aside0.mk (hbox); have n2_ := Aside0.mk ((by rw [hg]; exact (below_size (by exact pB HB.out)) : w.heap.size ≤ gb198)); have n3_ := Aside0.mk ((by rw [hg]; exact (below_size (by exact pB HB.out)) : w.heap.size ≤ gb198)); clear HB; have HB := n0_; have BK198 := n1_; have GW198 := n2_; have GE198 := n3_; clear n0_ n1_ n2_ n3_; clear hb hbox hg) | ((with_reducible refine gate_dst (N := 6) rfl ?_); (try (refine gate_guard (by rfl) ?_; dsimp only)); refine box_event ?hg (N := 6) ?hd (cs := #[.int .i64 0, .slice none 0 0, .slice none 0 0]) (t := 24) ?hr ?_; (case hd => rfl); (case hg => rfl); (case hr => first | (go_simp; done) | (go_simp; rfl)); intro gb199 hg w6 hbox hb; have n0_ := Aside0.mk (blk_below (g := gb198) (o := .cells #[.int .i64 a0_0, .slice A0_1 l0_1.length c0_1, .slice A0_2 l0_2.length c0_2] 24 (0, 0)) (by exact pK BK198.out) hb); have n1_ := Aside0.mk (below_step (by exact pB HB.out) hb); have n2_ := Aside0.mk (hbox); have n3_ := Aside0.mk ((by rw [hg]; exact (below_size (by exact pB HB.out)) : w.heap.size ≤ gb199)); have n4_ := Aside0.mk ((by rw [hg]; exact (below_size (by exact pB HB.out)) : w.heap.size ≤ gb199)); have n5_ := Aside0.mk ((by rw [hg]; exact Nat.ne_of_lt (blk_lt (g := gb198) (o := .cells #[.int .i64 a0_0, .slice A0_1 l0_1.length c0_1, .slice A0_2 l0_2.length c0_2] 24 (0, 0)) (by exact pK BK198.out)) : gb198 ≠ gb199)); have n6_ := Aside0.mk ((by rw [hg]; exact Nat.ne_of_gt (blk_lt (g := gb198) (o := .cells #[.int .i64 a0_0, .slice A0_1 l0_1.length c0_1, .slice A0_2 l0_2.length c0_2] 24 (0, 0)) (by exact pK BK198.out)) : gb199 ≠ gb198)); clear BK198; clear HB; have BK198 := n0_; have HB := n1_; have BK199 := n2_; have GW199 := n3_; have GE199 := n4_; have NB198_199 := n5_; have NB199_198 := n6_; clear n0_ n1_ n2_ n3_ n4_ n5_ n6_; clear hb hbox hg))
  (try simp only [Act.put, List.setIfInBounds_toArray, List.set_cons_zero, List.set_cons_succ])
  go_cut [27] (fun v27 wc => ∃ (kq : Nat) (x27_3 : Bool), v27 = .bool x27_3 ∧ Aside0 (customsref33_Deliver.j0 kq a1 a2 x27_3 a0_0 l0_1 l0_2 = some (r1, r2, r3, r4, r5)) ∧ Aside0 (kq ≤ k) ∧ Aside0 (wc.heap[gb198]? = some (.cells #[.int .i64 a0_0, (.slice A0_1 l0_1.length c0_1), (.slice A0_2 l0_2.length c0_2)] 24 (0, 0))) ∧ Aside0 (wc.heap[gb199]? = some (.cells #[.int .i64 0, (.slice none 0 0), (.slice none 0 0)] 24 (0, 0))) ∧ Aside0 (Below w.heap.size w wc))
  case first =>
    have H := HC4.out
    clear HC4
    by_cases c7 : a1 < 0
    · rw [if_pos c7] at H
      have c7b0 : decide (a1 < 0) = true := decide_eq_true c7
      clear c7
      (first | rw [c7b0] | (simp only [i64_w, i32_w]; rw [c7b0]) | skip)
      have H' := Aside0.mk H
      clear H
      go_wp2
      go_meet
      case rel => exact ⟨_, (true), (by first | rfl | (simp; done) | (simp [*]; done)), H', ⟨by first | omega | exact Nat.le_refl _⟩, ⟨by exact pK BK198.out⟩, ⟨by exact pK BK199.out⟩, ⟨by exact pB HB.out⟩⟩
    · rw [if_neg c7] at H
      have c7b0 : decide (a1 < 0) = false := decide_eq_false c7
      clear c7
      (first | rw [c7b0] | (simp only [i64_w, i32_w]; rw [c7b0]) | skip)
      by_cases c8 : a1 ≥ (l0_1.length : Int)
      · rw [if_pos c8] at H
        have c8b0 : decide ((l0_1.length : Int) ≤ a1) = true := decide_eq_true c8
        clear c8
        have H' := Aside0.mk H
        clear H
        have hnb9 := NB198_199.out
        have hnc9 := NB199_198.out
        have hcz10_0 : w6.cell? ⟨gb198, 0, none⟩ = some (.int .i64 a0_0) := (blk_cell BK198.out 0).trans rfl
        have hcz10_1 : w6.cell? ⟨gb198, 1, none⟩ = some (.slice A0_1 l0_1.length c0_1) := (blk_cell BK198.out 1).trans rfl
        have hcz10_2 : w6.cell? ⟨gb198, 2, none⟩ = some (.slice A0_2 l0_2.length c0_2) := (blk_cell BK198.out 2).trans rfl
        have hfz10_0 := blk_frozen BK198.out 0
        have hfz10_1 := blk_frozen BK198.out 1
        have hfz10_2 := blk_frozen BK198.out 2
        go_wp2
        go_meet
        case rel => exact ⟨_, (true), (by first | rfl | (simp; done) | (simp [*]; done)), H', ⟨by first | omega | exact Nat.le_refl _⟩, ⟨by exact pK BK198.out⟩, ⟨by exact pK BK199.out⟩, ⟨by exact pB HB.out⟩⟩
      · rw [if_neg c8] at H
        have c8b0 : decide ((l0_1.length : Int) ≤ a1) = false := decide_eq_false c8
        clear c8
        by_cases c11 : a2 < 0
        · rw [if_pos c11] at H
          have c11b0 : decide (a2 < 0) = true := decide_eq_true c11
          clear c11
          have H' := Aside0.mk H
          clear H
          have hnb12 := NB198_199.out
          have hnc12 := NB199_198.out
          have hcz13_0 : w6.cell? ⟨gb198, 0, none⟩ = some (.int .i64 a0_0) := (blk_cell BK198.out 0).trans rfl
          have hcz13_1 : w6.cell? ⟨gb198, 1, none⟩ = some (.slice A0_1 l0_1.length c0_1) := (blk_cell BK198.out 1).trans rfl
          have hcz13_2 : w6.cell? ⟨gb198, 2, none⟩ = some (.slice A0_2 l0_2.length c0_2) := (blk_cell BK198.out 2).trans rfl
          have hfz13_0 := blk_frozen BK198.out 0
          have hfz13_1 := blk_frozen BK198.out 1
          have hfz13_2 := blk_frozen BK198.out 2
          go_wp2
          go_meet
          case rel => exact ⟨_, (true), (by first | rfl | (simp; done) | (simp [*]; done)), H', ⟨by first | omega | exact Nat.le_refl _⟩, ⟨by exact pK BK198.out⟩, ⟨by exact pK BK199.out⟩, ⟨by exact pB HB.out⟩⟩
        · rw [if_neg c11] at H
          have c11b0 : decide (a2 < 0) = false := decide_eq_false c11
          clear c11
          have H' := Aside0.mk H
          clear H
          have hnb14 := NB198_199.out
          have hnc14 := NB199_198.out
          have hcz15_0 : w6.cell? ⟨gb198, 0, none⟩ = some (.int .i64 a0_0) := (blk_cell BK198.out 0).trans rfl
          have hcz15_1 : w6.cell? ⟨gb198, 1, none⟩ = some (.slice A0_1 l0_1.length c0_1) := (blk_cell BK198.out 1).trans rfl
          have hcz15_2 : w6.cell? ⟨gb198, 2, none⟩ = some (.slice A0_2 l0_2.length c0_2) := (blk_cell BK198.out 2).trans rfl
          have hfz15_0 := blk_frozen BK198.out 0
          have hfz15_1 := blk_frozen BK198.out 1
          have hfz15_2 := blk_frozen BK198.out 2
          go_wp2
          go_meet
          case rel => exact ⟨_, (decide (a2 > 1000000)), (by first | rfl | (simp; done) | (simp [*]; done)), H', ⟨by first | omega | exact Nat.le_refl _⟩, ⟨by exact pK BK198.out⟩, ⟨by exact pK BK199.out⟩, ⟨by exact pB HB.out⟩⟩
  case rest =>
    clear HC4
    try clear c1
    try clear p2
    try clear c7
    try clear c7b0
    try clear c8
    try clear c8b0
    try clear c9
    try clear c11
    try clear c11b0
    try clear c12
    try clear c14
    try clear hcz10_0
    try clear hcz10_1
    try clear hcz10_2
    try clear hcz13_0
    try clear hcz13_1
    try clear hcz13_2
    try clear hcz15_0
    try clear hcz15_1
    try clear hcz15_2
    try clear hfz10_0
    try clear hfz10_1
    try clear hfz10_2
    try clear hfz13_0
    try clear hfz13_1
    try clear hfz13_2
    try clear hfz15_0
    try clear hfz15_1
    try clear hfz15_2
    obtain ⟨kq, x27_3, rfl, HA, HJ3, BK198, BK199, HB⟩ := hcut
    cases kq with
    | zero => exact absurd HA.out (by simp [customsref33_Deliver.j0])
    | succ kj3 =>
      have H := HA.out
      clear HA
      simp only [customsref33_Deliver.j0] at H
      by_cases c16 : x27_3 = true
      · subst c16
        have H1 : (some (0, ([] : List Int), ([] : List Int), 0, 2)) = some (r1, r2, r3, r4, r5) := by rw [if_pos rfl] at H; exact H
        clear H
        have H := H1
        clear H1
        simp only [Option.some.injEq, Prod.mk.injEq] at H
        obtain ⟨rfl, rfl, rfl, rfl, rfl⟩ := H
        have hnb17 := NB199_198.out
        have hnc17 := NB198_199.out
        have hcz18_0 : wc.cell? ⟨gb199, 0, none⟩ = some (.int .i64 0) := (blk_cell BK199.out 0).trans rfl
        have hcz18_1 : wc.cell? ⟨gb199, 1, none⟩ = some (.slice none 0 0) := (blk_cell BK199.out 1).trans rfl
        have hcz18_2 : wc.cell? ⟨gb199, 2, none⟩ = some (.slice none 0 0) := (blk_cell BK199.out 2).trans rfl
        have hfz18_0 := blk_frozen BK199.out 0
        have hfz18_1 := blk_frozen BK199.out 1
        have hfz18_2 := blk_frozen BK199.out 2
        go_wp2
        refine bodyPost_ret (results_ctt rfl _ _ gb199 24 #[.int .i64 0, .slice none 0 0, .slice none 0 0] (0, 0) _ rfl (by (with_reducible repeat (first | refine blk_drewN ?_ _ | refine blk_drew ?_ | refine blk_alloc ?_ _)); refine blk_put (cs := #[.int .i64 0, .slice none 0 0, .slice none 0 0]) ?_ 2 _ rfl; (with_reducible repeat (first | refine blk_drewN ?_ _ | refine blk_drew ?_ | refine blk_alloc ?_ _)); refine blk_put (cs := #[.int .i64 0, .slice none 0 0, .slice none 0 0]) ?_ 1 _ rfl; (with_reducible repeat (first | refine blk_drewN ?_ _ | refine blk_drew ?_ | refine blk_alloc ?_ _)); refine blk_put (cs := #[.int .i64 0, .slice none 0 0, .slice none 0 0]) ?_ 0 _ rfl; (with_reducible repeat (first | refine blk_drewN ?_ _ | refine blk_drew ?_ | refine blk_alloc ?_ _)); exact BK199.out) Try.underlying24 rfl (by kernel_rfl)) rfl ?_
        exact ⟨_, _, by first | rfl | (simp [errW_none, errW_some] <;> rfl) | (simp [*, errW_none, errW_some] <;> rfl), by first | exact Kd.R_nil _ _ _ _ _ | exact Kd.N_nil _ _ _ _ _ | exact Kd.V_nil _ _ _ _ _ | exact Kd.Q_nil _ _ _ _ _ | exact Kd.S_nil _ _ _ _ _, by first | exact Kd.R_nil _ _ _ _ _ | exact Kd.N_nil _ _ _ _ _ | exact Kd.V_nil _ _ _ _ _ | exact Kd.Q_nil _ _ _ _ _ | exact Kd.S_nil _ _ _ _ _, by repeat (first | (with_reducible first | exact HB.out | apply below_alloc | apply pw_below_drewN | apply below_drew1 | refine below_set ?_ GE198.out | refine below_set ?_ GE199.out) | exact HB.out)⟩
      · replace c16 := Bool.eq_false_iff.mpr c16
        subst c16
        have H1 : (if 0 ≤ a1 then (if a1 < (l0_1.length : Int) then (if (rd l0_1 a1) = (wrap64 (a2 + 1)) then ((customsref33_out.f l0_1 a1).bind fun t201 => ((some (([] : List Int) : List Int)).bind fun y204 => (if y204.length + l0_2.length < 17592186044416 then ((some (y204 ++ l0_2 : List Int)).bind fun y207 => ((some (([rd l0_1 a1] : List Int) : List Int)).bind fun y210 => (if y207.length + y210.length < 17592186044416 then (some (a0_0, t201, (y207 ++ y210), rd l0_1 a1, 0)) else (none)))) else (none)))) else ((customsref33_out.f l0_1 a1).bind fun t216 => ((some (([] : List Int) : List Int)).bind fun y219 => (if y219.length + l0_2.length < 17592186044416 then ((some (y219 ++ l0_2 : List Int)).bind fun y222 => ((some (([a2] : List Int) : List Int)).bind fun y225 => (if y222.length + y225.length < 17592186044416 then (some (a0_0, t216, (y222 ++ y225), rd l0_1 a1, 0)) else (none)))) else (none))))) else (none)) else (none)) = some (r1, r2, r3, r4, r5) := by rw [if_neg (show ¬ (false = true) by decide)] at H; exact H
        clear H
        have H := H1
        clear H1
        have c19 : 0 ≤ a1 := by
          refine Classical.byContradiction fun c19 => ?_
          rw [if_neg c19] at H
          exact absurd H (by simp)
        rw [if_pos c19] at H
        have c19b0 : decide (0 ≤ a1) = true := decide_eq_true c19
        clear c19
        have c20 : a1 < (l0_1.length : Int) := by
          refine Classical.byContradiction fun c20 => ?_
          rw [if_neg c20] at H
          exact absurd H (by simp)
        rw [if_pos c20] at H
        have c20b0 : decide (a1 < (l0_1.length : Int)) = true := decide_eq_true c20
        clear c20
        by_cases c21 : (rd l0_1 a1) = (wrap64 (a2 + 1))
        · rw [if_pos c21] at H
          have c21b0 : ((rd l0_1 a1) == (wrap64 (a2 + 1))) = true := beq_iff_eq.mpr c21
          have c21b1 : ((rd l0_1 a1) != (wrap64 (a2 + 1))) = false := bne_eq_false_iff_eq.mpr c21
          clear c21
          replace H := Option.bind_eq_some_iff.mp H
          obtain ⟨t201, A220, H⟩ := H
          replace H : ((some (([] : List Int) : List Int)).bind fun y204 => (if y204.length + l0_2.length < 17592186044416 then ((some (y204 ++ l0_2 : List Int)).bind fun y207 => ((some (([rd l0_1 a1] : List Int) : List Int)).bind fun y210 => (if y207.length + y210.length < 17592186044416 then (some (a0_0, t201, (y207 ++ y210), rd l0_1 a1, 0)) else (none)))) else (none))) = some (r1, r2, r3, r4, r5) := H
          have A22 := Aside0.mk A220
          clear A220
          obtain ⟨y204, hy204⟩ : ∃ y_ : List Int, y_ = (([] : List Int)) := ⟨_, rfl⟩
          replace H : (if y204.length + l0_2.length < 17592186044416 then ((some (y204 ++ l0_2 : List Int)).bind fun y207 => ((some (([rd l0_1 a1] : List Int) : List Int)).bind fun y210 => (if y207.length + y210.length < 17592186044416 then (some (a0_0, t201, (y207 ++ y210), rd l0_1 a1, 0)) else (none)))) else (none)) = some (r1, r2, r3, r4, r5) := by first | (rw [hy204]; with_reducible exact H) | (have H2_ := (Option.bind_some _ _).symm.trans H; rw [hy204]; with_reducible exact H2_) | (have H2_ := (Option.bind_some _ _).symm.trans H; with_reducible exact H2_) | with_reducible exact H | (rw [hy204]; exact H) | exact H
          have Ny204 := Aside0.mk hy204
          clear hy204
          have c23 : y204.length + l0_2.length < 17592186044416 := by
            refine Classical.byContradiction fun c23 => ?_
            rw [if_neg c23] at H
            exact absurd H (by simp)
          rw [if_pos c23] at H
          have LMc23 := Aside0.mk c23
          clear c23
          obtain ⟨y207, hy207⟩ : ∃ y_ : List Int, y_ = (y204 ++ l0_2) := ⟨_, rfl⟩
          replace H : ((some (([rd l0_1 a1] : List Int) : List Int)).bind fun y210 => (if y207.length + y210.length < 17592186044416 then (some (a0_0, t201, (y207 ++ y210), rd l0_1 a1, 0)) else (none))) = some (r1, r2, r3, r4, r5) := by first | (rw [hy207]; with_reducible exact H) | (have H2_ := (Option.bind_some _ _).symm.trans H; rw [hy207]; with_reducible exact H2_) | (have H2_ := (Option.bind_some _ _).symm.trans H; with_reducible exact H2_) | with_reducible exact H | (rw [hy207]; exact H) | exact H
          have Ny207 := Aside0.mk hy207
          clear hy207
          obtain ⟨y210, hy210⟩ : ∃ y_ : List Int, y_ = (([rd l0_1 a1] : List Int)) := ⟨_, rfl⟩
          replace H : (if y207.length + y210.length < 17592186044416 then (some (a0_0, t201, (y207 ++ y210), rd l0_1 a1, 0)) else (none)) = some (r1, r2, r3, r4, r5) := by first | (rw [hy210]; with_reducible exact H) | (have H2_ := (Option.bind_some _ _).symm.trans H; rw [hy210]; with_reducible exact H2_) | (have H2_ := (Option.bind_some _ _).symm.trans H; with_reducible exact H2_) | with_reducible exact H | (rw [hy210]; exact H) | exact H
          have Ny210 := Aside0.mk hy210
          clear hy210
          have c24 : y207.length + y210.length < 17592186044416 := by
            refine Classical.byContradiction fun c24 => ?_
            rw [if_neg c24] at H
            exact absurd H (by simp)
          rw [if_pos c24] at H
          have LMc24 := Aside0.mk c24
          clear c24
          obtain ⟨y213, hy213⟩ : ∃ y_ : List Int, y_ = (y207 ++ y210) := ⟨_, rfl⟩
          replace H : (some (a0_0, t201, y213, rd l0_1 a1, 0)) = some (r1, r2, r3, r4, r5) := by first | (rw [hy213]; with_reducible exact H) | (have H2_ := (Option.bind_some _ _).symm.trans H; rw [hy213]; with_reducible exact H2_) | (have H2_ := (Option.bind_some _ _).symm.trans H; with_reducible exact H2_) | with_reducible exact H | (rw [hy213]; exact H) | exact H
          have Ny213 := Aside0.mk hy213
          clear hy213
          simp only [Option.some.injEq, Prod.mk.injEq] at H
          obtain ⟨rfl, rfl, rfl, rfl, rfl⟩ := H
          have hnb25 := NB198_199.out
          have hnc25 := NB199_198.out
          have hcz26_0 : wc.cell? ⟨gb198, 0, none⟩ = some (.int .i64 a0_0) := (blk_cell BK198.out 0).trans rfl
          have hcz26_1 : wc.cell? ⟨gb198, 1, none⟩ = some (.slice A0_1 l0_1.length c0_1) := (blk_cell BK198.out 1).trans rfl
          have hcz26_2 : wc.cell? ⟨gb198, 2, none⟩ = some (.slice A0_2 l0_2.length c0_2) := (blk_cell BK198.out 2).trans rfl
          have hfz26_0 := blk_frozen BK198.out 0
          have hfz26_1 := blk_frozen BK198.out 1
          have hfz26_2 := blk_frozen BK198.out 2
          have p200 : 0 ≤ (a1 : Int) := of_decide_eq_true (by first | (with_reducible assumption) | assumption)
          have q200 : a1 < (l0_1.length : Int) := of_decide_eq_true (by first | (with_reducible assumption) | assumption)
          obtain ⟨ad200, e200, hx200_0⟩ := Kd.at_int HR0_1.out a1 p200 q200
          cases e200
          replace hx200_0 := (HB.out.cell (World.block_lt_of_cell? w _ hx200_0)).trans hx200_0
          replace p200 := eq_true p200
          replace q200 := eq_true q200
          try go_wp2
          have n0_ := Aside0.mk (blk_drew BK198.out)
          have n1_ := Aside0.mk (blk_drew BK199.out)
          have n2_ := Aside0.mk (below_drew1 HB.out)
          clear BK198
          clear BK199
          clear HB
          have BK198 := n0_
          have BK199 := n1_
          have HB := n2_
          clear n0_ n1_ n2_
          refine start_ (n := 18) (S := fun w' => w'.cell? ⟨gb198, 0, none⟩ = some (.int .i64 a0_0) ∧ w'.cell? ⟨gb198, 1, none⟩ = some (.slice (some ad200) l0_1.length c0_1) ∧ w'.cell? ⟨gb198, 2, none⟩ = some (.slice A0_2 l0_2.length c0_2)) (ds := []) #[false, false, false, false, false, false, false, false, false, false, false, false, false, false, false, false, false, false] (by kernel_rfl) rfl rfl ⟨(blk_cell BK198.out 0).trans rfl, (blk_cell BK198.out 1).trans rfl, (blk_cell BK198.out 2).trans rfl⟩ (fun hHeld => ?_); refine with_tabW customsref33_Deliver.tab7 customsref33_Deliver.bits7 (fun HT_ HW_ => ?_)
          generalize wc.drew = w27 at BK198 BK199 HB hHeld ⊢
          refine pure_ (i := 0) (N := some 40) (v := ?_) (a' := ?_) #[true, false, false, false, false, false, false, false, false, false, false, false, false, false, false, false, false, false] rfl rfl (any_of HT_.out (by kernel_rfl)) (fun _ _ _ h => h) (Or.inl ⟨by rfl, ?_⟩) ?_ ?_
          rotate_left
          · intro w'
            go_simp
            with_reducible rfl
          rotate_left
          · simp only [Act.put, List.setIfInBounds_toArray, List.set_cons_zero, List.set_cons_succ, i64_w, i32_w]
            rfl
          refine pure_ (i := 2) (N := some 42) (v := ?_) (a' := ?_) #[true, false, true, false, false, false, false, false, false, false, false, false, false, false, false, false, false, false] rfl rfl (any_of HT_.out (by kernel_rfl)) (fun _ _ _ h => h) (Or.inl ⟨by rfl, ?_⟩) ?_ ?_
          rotate_left
          · intro w'
            go_simp
            with_reducible rfl
          rotate_left
          · simp only [Act.put, List.setIfInBounds_toArray, List.set_cons_zero, List.set_cons_succ, i64_w, i32_w]
            rfl
          refine pure_ (i := 4) (N := some 44) (v := ?_) (a' := ?_) #[true, false, true, false, true, false, false, false, false, false, false, false, false, false, false, false, false, false] rfl rfl (any_of HT_.out (by kernel_rfl)) (fun _ _ _ h => h) (Or.inl ⟨by rfl, ?_⟩) ?_ ?_
          rotate_left
          · intro w'
            go_simp
            with_reducible rfl
          rotate_left
          · simp only [Act.put, List.setIfInBounds_toArray, List.set_cons_zero, List.set_cons_succ, i64_w, i32_w]
            rfl
          refine pure_ (i := 7) (N := some 47) (v := ?_) (a' := ?_) #[true, false, true, false, true, false, false, true, false, false, false, false, false, false, false, false, false, false] rfl rfl (any_of HT_.out (by kernel_rfl)) (fun _ _ _ h => h) (Or.inl ⟨by rfl, ?_⟩) ?_ ?_
          rotate_left
          · intro w'
            go_simp
            with_reducible rfl
          rotate_left
          · simp only [Act.put, List.setIfInBounds_toArray, List.set_cons_zero, List.set_cons_succ, i64_w, i32_w]
            rfl
          refine pure_ (i := 10) (N := some 50) (v := ?_) (a' := ?_) #[true, false, true, false, true, false, false, true, false, false, true, false, false, false, false, false, false, false] rfl rfl (any_of HT_.out (by kernel_rfl)) (fun _ _ _ h => h) (Or.inl ⟨by rfl, ?_⟩) ?_ ?_
          rotate_left
          · intro w'
            go_simp
            with_reducible rfl
          rotate_left
          · simp only [Act.put, List.setIfInBounds_toArray, List.set_cons_zero, List.set_cons_succ, i64_w, i32_w]
            rfl
          refine pure_ (i := 14) (N := some 54) (v := ?_) (a' := ?_) #[true, false, true, false, true, false, false, true, false, false, true, false, false, false, true, false, false, false] rfl rfl (any_of HT_.out (by kernel_rfl)) (fun _ _ _ h => h) (Or.inl ⟨by rfl, ?_⟩) ?_ ?_
          rotate_left
          · intro w'
            go_simp
            with_reducible rfl
          rotate_left
          · simp only [Act.put, List.setIfInBounds_toArray, List.set_cons_zero, List.set_cons_succ, i64_w, i32_w]
            rfl
          refine take_ (i := 1) (N := some 41) (v := ?_) (a' := ?_) #[true, true, true, false, true, false, false, true, false, false, true, false, false, false, true, false, false, false] rfl rfl (take_ofW HT_.out HW_.out (by kernel_rfl)) (fun _ _ _ h => h) (Or.inl ⟨by rfl, ?_⟩) hHeld ?_ ?_
          rotate_left
          · rintro w' ⟨s0, s1, s2⟩
            go_simp
            with_reducible rfl
          rotate_left
          · simp only [Act.put, List.setIfInBounds_toArray, List.set_cons_zero, List.set_cons_succ, i64_w, i32_w]
            rfl
          refine take_ (i := 3) (N := some 43) (v := ?_) (a' := ?_) #[true, true, true, true, true, false, false, true, false, false, true, false, false, false, true, false, false, false] rfl rfl (take_ofW HT_.out HW_.out (by kernel_rfl)) (fun _ _ _ h => h) (Or.inl ⟨by rfl, ?_⟩) hHeld ?_ ?_
          rotate_left
          · rintro w' ⟨s0, s1, s2⟩
            go_simp
            with_reducible rfl
          rotate_left
          · simp only [Act.put, List.setIfInBounds_toArray, List.set_cons_zero, List.set_cons_succ, i64_w, i32_w]
            rfl
          refine take_ (i := 8) (N := some 48) (v := ?_) (a' := ?_) #[true, true, true, true, true, false, false, true, true, false, true, false, false, false, true, false, false, false] rfl rfl (take_ofW HT_.out HW_.out (by kernel_rfl)) (fun _ _ _ h => h) (Or.inl ⟨by rfl, ?_⟩) hHeld ?_ ?_
          rotate_left
          · rintro w' ⟨s0, s1, s2⟩
            go_simp
            with_reducible rfl
          rotate_left
          · simp only [Act.put, List.setIfInBounds_toArray, List.set_cons_zero, List.set_cons_succ, i64_w, i32_w]
            rfl
          refine join_ (σ := Value × Value × Value × Value) 5 #[true, true, true, true, true, true, true, true, true, true, true, true, false, false, true, false, false, false] (fun s_ => [(45, s_.1), (46, s_.2.1), (49, s_.2.2.1), (51, s_.2.2.2)]) (fun s_ w' => (w'.cell? ⟨gb198, 0, none⟩ = some (.int .i64 a0_0) ∧ w'.cell? ⟨gb198, 1, none⟩ = some (.slice (some ad200) l0_1.length c0_1) ∧ w'.cell? ⟨gb198, 2, none⟩ = some (.slice A0_2 l0_2.length c0_2)) ∧ (Kd.R (Kd.int .i64) 3 w' w.heap.size (fun k_ => some k_ ≠ (s_.2.2.1 : Value).ownBlock ∧ some k_ ≠ (s_.2.2.2 : Value).ownBlock) s_.1 t201) ∧ (Kd.R (Kd.int .i64) 3 w' w.heap.size (fun k_ => some k_ ≠ (s_.1 : Value).ownBlock ∧ some k_ ≠ (s_.2.2.2 : Value).ownBlock) s_.2.2.1 y207) ∧ (Kd.R (Kd.int .i64) 3 w' w.heap.size (fun k_ => some k_ ≠ (s_.1 : Value).ownBlock ∧ some k_ ≠ (s_.2.2.1 : Value).ownBlock) s_.2.2.2 y210) ∧ (w'.heap[gb198]? = some (.cells #[.int .i64 a0_0, .slice (some ad200) l0_1.length c0_1, .slice A0_2 l0_2.length c0_2] 24 (0, 0))) ∧ (w'.heap[gb199]? = some (.cells #[.int .i64 0, .slice none 0 0, .slice none 0 0] 24 (0, 0))) ∧ (Below w.heap.size w w')) ?_ ?_
          rotate_left
          · intro hJ5_6_9_11
            refine join_ (σ := Value × Value × Value) 6 #[true, true, true, true, true, true, true, true, true, true, true, false, false, false, true, false, false, false] (fun s_ => [(45, s_.1), (46, s_.2.1), (49, s_.2.2)]) (fun s_ w' => (w'.cell? ⟨gb198, 0, none⟩ = some (.int .i64 a0_0) ∧ w'.cell? ⟨gb198, 1, none⟩ = some (.slice (some ad200) l0_1.length c0_1) ∧ w'.cell? ⟨gb198, 2, none⟩ = some (.slice A0_2 l0_2.length c0_2)) ∧ (Kd.R (Kd.int .i64) 3 w' w.heap.size (fun k_ => some k_ ≠ (s_.2.2 : Value).ownBlock) s_.1 t201) ∧ (Kd.R (Kd.int .i64) 3 w' w.heap.size (fun k_ => some k_ ≠ (s_.1 : Value).ownBlock) s_.2.2 y207) ∧ (w'.heap[gb198]? = some (.cells #[.int .i64 a0_0, .slice (some ad200) l0_1.length c0_1, .slice A0_2 l0_2.length c0_2] 24 (0, 0))) ∧ (w'.heap[gb199]? = some (.cells #[.int .i64 0, .slice none 0 0, .slice none 0 0] 24 (0, 0))) ∧ (Below w.heap.size w w')) ?_ ?_
            rotate_left
            · intro hJ5_6_9
              refine join_ (σ := Value × Value × Value) 6 #[true, true, true, true, true, true, true, true, true, false, true, true, false, false, true, false, false, false] (fun s_ => [(45, s_.1), (46, s_.2.1), (51, s_.2.2)]) (fun s_ w' => (w'.cell? ⟨gb198, 0, none⟩ = some (.int .i64 a0_0) ∧ w'.cell? ⟨gb198, 1, none⟩ = some (.slice (some ad200) l0_1.length c0_1) ∧ w'.cell? ⟨gb198, 2, none⟩ = some (.slice A0_2 l0_2.length c0_2)) ∧ (Kd.R (Kd.int .i64) 3 w' w.heap.size (fun k_ => some k_ ≠ (s_.2.1 : Value).ownBlock ∧ some k_ ≠ (s_.2.2 : Value).ownBlock) s_.1 t201) ∧ (Kd.R (Kd.int .i64) 3 w' w.heap.size (fun k_ => some k_ ≠ (s_.1 : Value).ownBlock ∧ some k_ ≠ (s_.2.2 : Value).ownBlock) s_.2.1 y204) ∧ (Kd.R (Kd.int .i64) 3 w' w.heap.size (fun k_ => some k_ ≠ (s_.1 : Value).ownBlock ∧ some k_ ≠ (s_.2.1 : Value).ownBlock) s_.2.2 y210) ∧ (w'.heap[gb198]? = some (.cells #[.int .i64 a0_0, .slice (some ad200) l0_1.length c0_1, .slice A0_2 l0_2.length c0_2] 24 (0, 0))) ∧ (w'.heap[gb199]? = some (.cells #[.int .i64 0, .slice none 0 0, .slice none 0 0] 24 (0, 0))) ∧ (Below w.heap.size w w')) ?_ ?_
              rotate_left
              · intro hJ5_6_11
                refine join_ (σ := Value × Value) 7 #[true, true, true, true, true, true, true, true, true, false, true, false, false, false, true, false, false, false] (fun s_ => [(45, s_.1), (46, s_.2)]) (fun s_ w' => (w'.cell? ⟨gb198, 0, none⟩ = some (.int .i64 a0_0) ∧ w'.cell? ⟨gb198, 1, none⟩ = some (.slice (some ad200) l0_1.length c0_1) ∧ w'.cell? ⟨gb198, 2, none⟩ = some (.slice A0_2 l0_2.length c0_2)) ∧ (Kd.R (Kd.int .i64) 3 w' w.heap.size (fun k_ => some k_ ≠ (s_.2 : Value).ownBlock) s_.1 t201) ∧ (Kd.R (Kd.int .i64) 3 w' w.heap.size (fun k_ => some k_ ≠ (s_.1 : Value).ownBlock) s_.2 y204) ∧ (w'.heap[gb198]? = some (.cells #[.int .i64 a0_0, .slice (some ad200) l0_1.length c0_1, .slice A0_2 l0_2.length c0_2] 24 (0, 0))) ∧ (w'.heap[gb199]? = some (.cells #[.int .i64 0, .slice none 0 0, .slice none 0 0] 24 (0, 0))) ∧ (Below w.heap.size w w')) ?_ ?_
                rotate_left
                · intro hJ5_6
                  refine join_ (σ := Value × Value) 7 #[true, true, true, true, true, true, false, true, true, false, true, true, false, false, true, false, false, false] (fun s_ => [(45, s_.1), (51, s_.2)]) (fun s_ w' => (w'.cell? ⟨gb198, 0, none⟩ = some (.int .i64 a0_0) ∧ w'.cell? ⟨gb198, 1, none⟩ = some (.slice (some ad200) l0_1.length c0_1) ∧ w'.cell? ⟨gb198, 2, none⟩ = some (.slice A0_2 l0_2.length c0_2)) ∧ (Kd.R (Kd.int .i64) 3 w' w.heap.size (fun k_ => some k_ ≠ (s_.2 : Value).ownBlock) s_.1 t201) ∧ (Kd.R (Kd.int .i64) 3 w' w.heap.size (fun k_ => some k_ ≠ (s_.1 : Value).ownBlock) s_.2 y210) ∧ (w'.heap[gb198]? = some (.cells #[.int .i64 a0_0, .slice (some ad200) l0_1.length c0_1, .slice A0_2 l0_2.length c0_2] 24 (0, 0))) ∧ (w'.heap[gb199]? = some (.cells #[.int .i64 0, .slice none 0 0, .slice none 0 0] 24 (0, 0))) ∧ (Below w.heap.size w w')) ?_ ?_
                  rotate_left
                  · intro hJ5_11
                    refine join_ (σ := Value × Value) 7 #[true, true, true, true, true, false, true, true, true, false, true, true, false, false, true, false, false, false] (fun s_ => [(46, s_.1), (51, s_.2)]) (fun s_ w' => (w'.cell? ⟨gb198, 0, none⟩ = some (.int .i64 a0_0) ∧ w'.cell? ⟨gb198, 1, none⟩ = some (.slice (some ad200) l0_1.length c0_1) ∧ w'.cell? ⟨gb198, 2, none⟩ = some (.slice A0_2 l0_2.length c0_2)) ∧ (Kd.R (Kd.int .i64) 3 w' w.heap.size (fun k_ => some k_ ≠ (s_.2 : Value).ownBlock) s_.1 y204) ∧ (Kd.R (Kd.int .i64) 3 w' w.heap.size (fun k_ => some k_ ≠ (s_.1 : Value).ownBlock) s_.2 y210) ∧ (w'.heap[gb198]? = some (.cells #[.int .i64 a0_0, .slice (some ad200) l0_1.length c0_1, .slice A0_2 l0_2.length c0_2] 24 (0, 0))) ∧ (w'.heap[gb199]? = some (.cells #[.int .i64 0, .slice none 0 0, .slice none 0 0] 24 (0, 0))) ∧ (Below w.heap.size w w')) ?_ ?_
                    rotate_left
                    · intro hJ6_11
                      refine join_ (σ := Value) 8 #[true, true, true, true, true, true, false, true, true, false, true, false, false, false, true, false, false, false] (fun s_ => [(45, s_)]) (fun s_ w' => (w'.cell? ⟨gb198, 0, none⟩ = some (.int .i64 a0_0) ∧ w'.cell? ⟨gb198, 1, none⟩ = some (.slice (some ad200) l0_1.length c0_1) ∧ w'.cell? ⟨gb198, 2, none⟩ = some (.slice A0_2 l0_2.length c0_2)) ∧ (Kd.R (Kd.int .i64) 3 w' w.heap.size (fun _ => True) s_ t201) ∧ (w'.heap[gb198]? = some (.cells #[.int .i64 a0_0, .slice (some ad200) l0_1.length c0_1, .slice A0_2 l0_2.length c0_2] 24 (0, 0))) ∧ (w'.heap[gb199]? = some (.cells #[.int .i64 0, .slice none 0 0, .slice none 0 0] 24 (0, 0))) ∧ (Below w.heap.size w w')) ?_ ?_
                      rotate_left
                      · intro hJ5
                        refine join_ (σ := Value) 8 #[true, true, true, true, true, false, true, true, true, false, true, false, false, false, true, false, false, false] (fun s_ => [(46, s_)]) (fun s_ w' => (w'.cell? ⟨gb198, 0, none⟩ = some (.int .i64 a0_0) ∧ w'.cell? ⟨gb198, 1, none⟩ = some (.slice (some ad200) l0_1.length c0_1) ∧ w'.cell? ⟨gb198, 2, none⟩ = some (.slice A0_2 l0_2.length c0_2)) ∧ (Kd.R (Kd.int .i64) 3 w' w.heap.size (fun _ => True) s_ y204) ∧ (w'.heap[gb198]? = some (.cells #[.int .i64 a0_0, .slice (some ad200) l0_1.length c0_1, .slice A0_2 l0_2.length c0_2] 24 (0, 0))) ∧ (w'.heap[gb199]? = some (.cells #[.int .i64 0, .slice none 0 0, .slice none 0 0] 24 (0, 0))) ∧ (Below w.heap.size w w')) ?_ ?_
                        rotate_left
                        · intro hJ6
                          refine join_ (σ := Value) 8 #[true, true, true, true, true, false, false, true, true, false, true, true, false, false, true, false, false, false] (fun s_ => [(51, s_)]) (fun s_ w' => (w'.cell? ⟨gb198, 0, none⟩ = some (.int .i64 a0_0) ∧ w'.cell? ⟨gb198, 1, none⟩ = some (.slice (some ad200) l0_1.length c0_1) ∧ w'.cell? ⟨gb198, 2, none⟩ = some (.slice A0_2 l0_2.length c0_2)) ∧ (Kd.R (Kd.int .i64) 3 w' w.heap.size (fun _ => True) s_ y210) ∧ (w'.heap[gb198]? = some (.cells #[.int .i64 a0_0, .slice (some ad200) l0_1.length c0_1, .slice A0_2 l0_2.length c0_2] 24 (0, 0))) ∧ (w'.heap[gb199]? = some (.cells #[.int .i64 0, .slice none 0 0, .slice none 0 0] 24 (0, 0))) ∧ (Below w.heap.size w w')) ?_ ?_
                          rotate_left
                          · intro hJ11
                            refine three_ (i := 5) (j := 6) (k := 11) (Ni := some 45) (Nj := some 46) (Nk := some 51) #[true, true, true, true, true, true, false, true, true, false, true, false, false, false, true, false, false, false] #[true, true, true, true, true, false, true, true, true, false, true, false, false, false, true, false, false, false] #[true, true, true, true, true, false, false, true, true, false, true, true, false, false, true, false, false, false] rfl rfl rfl rfl rfl rfl (three_of HT_.out (by kernel_rfl)) (by decide) (by decide) (by decide) (fun K hK => ?_) (fun K hK => ?_) (fun K hK => ?_)
                            · skip
                              refine goes_ Try.func35 (by kernel_rfl) rfl #[.slice (some ad200) l0_1.length c0_1, .int .i64 a1] (by rfl) rfl rfl (by (try simp only [List.map_toArray, List.map_cons, List.map_nil]); first | done | rfl | (simp only [List.length_drop, List.length_take]; rfl)) ?_
                              with_reducible refine (customsref33_out.calls _ _ l0_1 a1 t201 _ ?side1 ?side2 A22.out).mono ?_
                              (case side1 => exact pC (Kd.C_below HR0_1.out HB.out))
                              (case side2 => exact HC0_1.out)
                              rintro e w28 ⟨v202, rfl, ho0, hb⟩
                              refine ⟨_, rfl, ?_⟩
                              have n0_ := Aside0.mk (Kd.R_lower ho0 (below_size (by exact pB HB.out)))
                              have n1_ := Aside0.mk (blk_below (g := gb198) (o := .cells #[.int .i64 a0_0, .slice (some ad200) l0_1.length c0_1, .slice A0_2 l0_2.length c0_2] 24 (0, 0)) (by exact pK BK198.out) hb)
                              have n2_ := Aside0.mk (blk_below (g := gb199) (o := .cells #[.int .i64 0, .slice none 0 0, .slice none 0 0] 24 (0, 0)) (by exact pK BK199.out) hb)
                              have n3_ := Aside0.mk (below_step (by exact pB HB.out) hb)
                              clear BK198
                              clear BK199
                              clear HB
                              have HO203 := n0_
                              have BK198 := n1_
                              have BK199 := n2_
                              have HB := n3_
                              clear n0_ n1_ n2_ n3_
                              (try clear hb)
                              (try clear hb2)
                              (try clear hk)
                              (try clear hi)
                              (try clear ho0)
                              refine hK.out _ _ ⟨(blk_cell BK198.out 0).trans rfl, (blk_cell BK198.out 1).trans rfl, (blk_cell BK198.out 2).trans rfl⟩ (fun hHeld => ?_)
                              clear hK K
                              refine norm_ (a' := ?_) ?_ ?_
                              rotate_left
                              · show Act.put _ (some 45) _ = _
                                simp only [Act.put, List.setIfInBounds_toArray, List.set_cons_zero, List.set_cons_succ, i64_w, i32_w]
                                rfl
                              exact norm_ (by first | (simp only [putAll, Act.put, List.setIfInBounds_toArray, List.set_cons_zero, List.set_cons_succ]; done) | (simp only [putAll, Act.put, List.setIfInBounds_toArray, List.set_cons_zero, List.set_cons_succ]; rfl)) (hJ5 (v202) _ ⟨hHeld, (by exact pR HO203.out), (by exact pK BK198.out), (by exact pK BK199.out), (by exact pB HB.out)⟩)
                            · skip
                              refine Kd.R_lit_step (Kd.int .i64) _ 3 ?hg (N := 46) ?hd (xs := ([] : List Int)) (inner := []) (ok := fun _ => True) (okp := fun _ => True) ?hr ?hp (fun _ hk => hk) trivial (Below.refl _ _) (Nat.le_refl _) (by simp) ?_; (case hd => rfl); (case hg => rfl); (case hr => first | (go_simp; done) | (go_simp; rfl)); (case hp => exact (Reps.none _ _))
                              intro v205 w28 ho29 hb hg_ hnew_
                              clear hg_ hnew_
                              (first | rw [← Ny204.out] at ho29 | (simp only [Int.reduceToNat] at ho29; rw [← Ny204.out] at ho29))
                              have n0_ := Aside0.mk (Kd.R_lower ho29 (below_size (by exact pB HB.out)))
                              have n1_ := Aside0.mk (blk_below (g := gb198) (o := .cells #[.int .i64 a0_0, .slice (some ad200) l0_1.length c0_1, .slice A0_2 l0_2.length c0_2] 24 (0, 0)) (by exact pK BK198.out) hb)
                              have n2_ := Aside0.mk (blk_below (g := gb199) (o := .cells #[.int .i64 0, .slice none 0 0, .slice none 0 0] 24 (0, 0)) (by exact pK BK199.out) hb)
                              have n3_ := Aside0.mk (below_step (by exact pB HB.out) hb)
                              clear BK198
                              clear BK199
                              clear HB
                              have HO206 := n0_
                              have BK198 := n1_
                              have BK199 := n2_
                              have HB := n3_
                              clear n0_ n1_ n2_ n3_
                              clear hb ho29
                              refine hK.out _ _ ⟨(blk_cell BK198.out 0).trans rfl, (blk_cell BK198.out 1).trans rfl, (blk_cell BK198.out 2).trans rfl⟩ (fun hHeld => ?_)
                              clear hK K
                              refine norm_ (a' := ?_) ?_ ?_
                              rotate_left
                              · show Act.put _ (some 46) _ = _
                                simp only [Act.put, List.setIfInBounds_toArray, List.set_cons_zero, List.set_cons_succ, i64_w, i32_w]
                                rfl
                              exact norm_ (by first | (simp only [putAll, Act.put, List.setIfInBounds_toArray, List.set_cons_zero, List.set_cons_succ]; done) | (simp only [putAll, Act.put, List.setIfInBounds_toArray, List.set_cons_zero, List.set_cons_succ]; rfl)) (hJ6 (v205) _ ⟨hHeld, (by exact pR HO206.out), (by exact pK BK198.out), (by exact pK BK199.out), (by exact pB HB.out)⟩)
                            · skip
                              refine Kd.R_lit_step (Kd.int .i64) _ 3 ?hg (N := 51) ?hd (xs := ([rd l0_1 a1] : List Int)) (inner := [.int .i64 (rd l0_1 a1)]) (ok := fun _ => True) (okp := fun _ => True) ?hr ?hp (fun _ hk => hk) trivial (Below.refl _ _) (Nat.le_refl _) (by simp) ?_; (case hd => rfl); (case hg => rfl); (case hr => first | (go_simp; done) | (go_simp; rfl)); (case hp => exact (Reps.one (show Kd.M (Kd.int .i64) _ _ _ (rd l0_1 a1) [.int .i64 (rd l0_1 a1)] from rfl) (Reps.none _ _)))
                              intro v211 w28 ho29 hb hg_ hnew_
                              clear hg_ hnew_
                              (first | rw [← Ny210.out] at ho29 | (simp only [Int.reduceToNat] at ho29; rw [← Ny210.out] at ho29))
                              have n0_ := Aside0.mk (Kd.R_lower ho29 (below_size (by exact pB HB.out)))
                              have n1_ := Aside0.mk (blk_below (g := gb198) (o := .cells #[.int .i64 a0_0, .slice (some ad200) l0_1.length c0_1, .slice A0_2 l0_2.length c0_2] 24 (0, 0)) (by exact pK BK198.out) hb)
                              have n2_ := Aside0.mk (blk_below (g := gb199) (o := .cells #[.int .i64 0, .slice none 0 0, .slice none 0 0] 24 (0, 0)) (by exact pK BK199.out) hb)
                              have n3_ := Aside0.mk (below_step (by exact pB HB.out) hb)
                              clear BK198
                              clear BK199
                              clear HB
                              have HO212 := n0_
                              have BK198 := n1_
                              have BK199 := n2_
                              have HB := n3_
                              clear n0_ n1_ n2_ n3_
                              clear hb ho29
                              refine hK.out _ _ ⟨(blk_cell BK198.out 0).trans rfl, (blk_cell BK198.out 1).trans rfl, (blk_cell BK198.out 2).trans rfl⟩ (fun hHeld => ?_)
                              clear hK K
                              refine norm_ (a' := ?_) ?_ ?_
                              rotate_left
                              · show Act.put _ (some 51) _ = _
                                simp only [Act.put, List.setIfInBounds_toArray, List.set_cons_zero, List.set_cons_succ, i64_w, i32_w]
                                rfl
                              exact norm_ (by first | (simp only [putAll, Act.put, List.setIfInBounds_toArray, List.set_cons_zero, List.set_cons_succ]; done) | (simp only [putAll, Act.put, List.setIfInBounds_toArray, List.set_cons_zero, List.set_cons_succ]; rfl)) (hJ11 (v211) _ ⟨hHeld, (by exact pR HO212.out), (by exact pK BK198.out), (by exact pK BK199.out), (by exact pB HB.out)⟩)
                          · skip
                            rintro v211 w30 ⟨hS_, h0_, h1_, h2_, h3_⟩
                            have n0_ : Aside0 (Kd.R (Kd.int .i64) 3 w30 w.heap.size (fun _ => True) v211 y210) := ⟨h0_⟩
                            have n1_ : Aside0 (w30.heap[gb198]? = some (.cells #[.int .i64 a0_0, .slice (some ad200) l0_1.length c0_1, .slice A0_2 l0_2.length c0_2] 24 (0, 0))) := ⟨h1_⟩
                            have n2_ : Aside0 (w30.heap[gb199]? = some (.cells #[.int .i64 0, .slice none 0 0, .slice none 0 0] 24 (0, 0))) := ⟨h2_⟩
                            have n3_ : Aside0 (Below w.heap.size w w30) := ⟨h3_⟩
                            clear BK198
                            clear BK199
                            clear HB
                            clear h0_ h1_ h2_ h3_
                            have HO212 := n0_
                            have BK198 := n1_
                            have BK199 := n2_
                            have HB := n3_
                            clear n0_ n1_ n2_ n3_
                            have hHeld : w30.cell? ⟨gb198, 0, none⟩ = some (.int .i64 a0_0) ∧ w30.cell? ⟨gb198, 1, none⟩ = some (.slice (some ad200) l0_1.length c0_1) ∧ w30.cell? ⟨gb198, 2, none⟩ = some (.slice A0_2 l0_2.length c0_2) := hS_
                            refine norm_ (a' := ?_) ?_ ?_
                            rotate_left
                            · simp only [putAll, Act.put, List.setIfInBounds_toArray, List.set_cons_zero, List.set_cons_succ]
                              rfl
                            refine two_ (i := 5) (j := 6) (Ni := some 45) (Nj := some 46) #[true, true, true, true, true, true, false, true, true, false, true, true, false, false, true, false, false, false] #[true, true, true, true, true, false, true, true, true, false, true, true, false, false, true, false, false, false] rfl rfl rfl rfl (two_of HT_.out (by kernel_rfl)) (by decide) (by decide) (fun K hK => ?_) (fun K hK => ?_)
                            · skip
                              refine goes_ Try.func35 (by kernel_rfl) rfl #[.slice (some ad200) l0_1.length c0_1, .int .i64 a1] (by rfl) rfl rfl (by (try simp only [List.map_toArray, List.map_cons, List.map_nil]); first | done | rfl | (simp only [List.length_drop, List.length_take]; rfl)) ?_
                              with_reducible refine (customsref33_out.calls _ _ l0_1 a1 t201 _ ?side1 ?side2 A22.out).mono ?_
                              (case side1 => exact pC (Kd.C_below HR0_1.out HB.out))
                              (case side2 => exact HC0_1.out)
                              rintro e w31 ⟨v202, rfl, ho0, hb⟩
                              refine ⟨_, rfl, ?_⟩
                              have n0_ := Aside0.mk (Kd.R_elder' (by exact pR HO212.out) (Kd.R_base ho0) hb)
                              have n1_ := Aside0.mk (Kd.R_lower (Kd.R_new' ho0 (Kd.R_lt (by exact pR HO212.out))) (below_size (by exact pB HB.out)))
                              have n2_ := Aside0.mk (blk_below (g := gb198) (o := .cells #[.int .i64 a0_0, .slice (some ad200) l0_1.length c0_1, .slice A0_2 l0_2.length c0_2] 24 (0, 0)) (by exact pK BK198.out) hb)
                              have n3_ := Aside0.mk (blk_below (g := gb199) (o := .cells #[.int .i64 0, .slice none 0 0, .slice none 0 0] 24 (0, 0)) (by exact pK BK199.out) hb)
                              have n4_ := Aside0.mk (below_step (by exact pB HB.out) hb)
                              clear HO212
                              clear BK198
                              clear BK199
                              clear HB
                              have HO212 := n0_
                              have HO203 := n1_
                              have BK198 := n2_
                              have BK199 := n3_
                              have HB := n4_
                              clear n0_ n1_ n2_ n3_ n4_
                              (try clear hb)
                              (try clear hb2)
                              (try clear hk)
                              (try clear hi)
                              (try clear ho0)
                              refine hK.out _ _ ⟨(blk_cell BK198.out 0).trans rfl, (blk_cell BK198.out 1).trans rfl, (blk_cell BK198.out 2).trans rfl⟩ (fun hHeld => ?_)
                              clear hK K
                              refine norm_ (a' := ?_) ?_ ?_
                              rotate_left
                              · show Act.put _ (some 45) _ = _
                                simp only [Act.put, List.setIfInBounds_toArray, List.set_cons_zero, List.set_cons_succ, i64_w, i32_w]
                                rfl
                              exact norm_ (by first | (simp only [putAll, Act.put, List.setIfInBounds_toArray, List.set_cons_zero, List.set_cons_succ]; done) | (simp only [putAll, Act.put, List.setIfInBounds_toArray, List.set_cons_zero, List.set_cons_succ]; rfl)) (hJ5_11 (v202, v211) _ ⟨hHeld, (by exact pR (Kd.R_mono HO203.out (fun _ hk => hk.2))), (by exact pR (Kd.R_mono HO212.out (fun _ hk => hk.2))), (by exact pK BK198.out), (by exact pK BK199.out), (by exact pB HB.out)⟩)
                            · skip
                              refine Kd.R_lit_step (Kd.int .i64) _ 3 ?hg (N := 46) ?hd (xs := ([] : List Int)) (inner := []) (ok := fun _ => True) (okp := fun _ => True) ?hr ?hp (fun _ hk => hk) trivial (Below.refl _ _) (Nat.le_refl _) (by simp) ?_; (case hd => rfl); (case hg => rfl); (case hr => first | (go_simp; done) | (go_simp; rfl)); (case hp => exact (Reps.none _ _))
                              intro v205 w31 ho32 hb hg_ hnew_
                              clear hg_ hnew_
                              (first | rw [← Ny204.out] at ho32 | (simp only [Int.reduceToNat] at ho32; rw [← Ny204.out] at ho32))
                              have n0_ := Aside0.mk (Kd.R_elder' (by exact pR HO212.out) (Kd.R_base ho32) hb)
                              have n1_ := Aside0.mk (Kd.R_lower (Kd.R_new' ho32 (Kd.R_lt (by exact pR HO212.out))) (below_size (by exact pB HB.out)))
                              have n2_ := Aside0.mk (blk_below (g := gb198) (o := .cells #[.int .i64 a0_0, .slice (some ad200) l0_1.length c0_1, .slice A0_2 l0_2.length c0_2] 24 (0, 0)) (by exact pK BK198.out) hb)
                              have n3_ := Aside0.mk (blk_below (g := gb199) (o := .cells #[.int .i64 0, .slice none 0 0, .slice none 0 0] 24 (0, 0)) (by exact pK BK199.out) hb)
                              have n4_ := Aside0.mk (below_step (by exact pB HB.out) hb)
                              clear HO212
                              clear BK198
                              clear BK199
                              clear HB
                              have HO212 := n0_
                              have HO206 := n1_
                              have BK198 := n2_
                              have BK199 := n3_
                              have HB := n4_
                              clear n0_ n1_ n2_ n3_ n4_
                              clear hb ho32
                              refine hK.out _ _ ⟨(blk_cell BK198.out 0).trans rfl, (blk_cell BK198.out 1).trans rfl, (blk_cell BK198.out 2).trans rfl⟩ (fun hHeld => ?_)
                              clear hK K
                              refine norm_ (a' := ?_) ?_ ?_
                              rotate_left
                              · show Act.put _ (some 46) _ = _
                                simp only [Act.put, List.setIfInBounds_toArray, List.set_cons_zero, List.set_cons_succ, i64_w, i32_w]
                                rfl
                              exact norm_ (by first | (simp only [putAll, Act.put, List.setIfInBounds_toArray, List.set_cons_zero, List.set_cons_succ]; done) | (simp only [putAll, Act.put, List.setIfInBounds_toArray, List.set_cons_zero, List.set_cons_succ]; rfl)) (hJ6_11 (v205, v211) _ ⟨hHeld, (by exact pR (Kd.R_mono HO206.out (fun _ hk => hk.2))), (by exact pR (Kd.R_mono HO212.out (fun _ hk => hk.2))), (by exact pK BK198.out), (by exact pK BK199.out), (by exact pB HB.out)⟩)
                        · skip
                          rintro v205 w30 ⟨hS_, h0_, h1_, h2_, h3_⟩
                          have n0_ : Aside0 (Kd.R (Kd.int .i64) 3 w30 w.heap.size (fun _ => True) v205 y204) := ⟨h0_⟩
                          have n1_ : Aside0 (w30.heap[gb198]? = some (.cells #[.int .i64 a0_0, .slice (some ad200) l0_1.length c0_1, .slice A0_2 l0_2.length c0_2] 24 (0, 0))) := ⟨h1_⟩
                          have n2_ : Aside0 (w30.heap[gb199]? = some (.cells #[.int .i64 0, .slice none 0 0, .slice none 0 0] 24 (0, 0))) := ⟨h2_⟩
                          have n3_ : Aside0 (Below w.heap.size w w30) := ⟨h3_⟩
                          clear BK198
                          clear BK199
                          clear HB
                          clear h0_ h1_ h2_ h3_
                          have HO206 := n0_
                          have BK198 := n1_
                          have BK199 := n2_
                          have HB := n3_
                          clear n0_ n1_ n2_ n3_
                          have hHeld : w30.cell? ⟨gb198, 0, none⟩ = some (.int .i64 a0_0) ∧ w30.cell? ⟨gb198, 1, none⟩ = some (.slice (some ad200) l0_1.length c0_1) ∧ w30.cell? ⟨gb198, 2, none⟩ = some (.slice A0_2 l0_2.length c0_2) := hS_
                          refine norm_ (a' := ?_) ?_ ?_
                          rotate_left
                          · simp only [putAll, Act.put, List.setIfInBounds_toArray, List.set_cons_zero, List.set_cons_succ]
                            rfl
                          refine two_ (i := 5) (j := 11) (Ni := some 45) (Nj := some 51) #[true, true, true, true, true, true, true, true, true, false, true, false, false, false, true, false, false, false] #[true, true, true, true, true, false, true, true, true, false, true, true, false, false, true, false, false, false] rfl rfl rfl rfl (two_of HT_.out (by kernel_rfl)) (by decide) (by decide) (fun K hK => ?_) (fun K hK => ?_)
                          · skip
                            refine goes_ Try.func35 (by kernel_rfl) rfl #[.slice (some ad200) l0_1.length c0_1, .int .i64 a1] (by rfl) rfl rfl (by (try simp only [List.map_toArray, List.map_cons, List.map_nil]); first | done | rfl | (simp only [List.length_drop, List.length_take]; rfl)) ?_
                            with_reducible refine (customsref33_out.calls _ _ l0_1 a1 t201 _ ?side1 ?side2 A22.out).mono ?_
                            (case side1 => exact pC (Kd.C_below HR0_1.out HB.out))
                            (case side2 => exact HC0_1.out)
                            rintro e w31 ⟨v202, rfl, ho0, hb⟩
                            refine ⟨_, rfl, ?_⟩
                            have n0_ := Aside0.mk (Kd.R_elder' (by exact pR HO206.out) (Kd.R_base ho0) hb)
                            have n1_ := Aside0.mk (Kd.R_lower (Kd.R_new' ho0 (Kd.R_lt (by exact pR HO206.out))) (below_size (by exact pB HB.out)))
                            have n2_ := Aside0.mk (blk_below (g := gb198) (o := .cells #[.int .i64 a0_0, .slice (some ad200) l0_1.length c0_1, .slice A0_2 l0_2.length c0_2] 24 (0, 0)) (by exact pK BK198.out) hb)
                            have n3_ := Aside0.mk (blk_below (g := gb199) (o := .cells #[.int .i64 0, .slice none 0 0, .slice none 0 0] 24 (0, 0)) (by exact pK BK199.out) hb)
                            have n4_ := Aside0.mk (below_step (by exact pB HB.out) hb)
                            clear HO206
                            clear BK198
                            clear BK199
                            clear HB
                            have HO206 := n0_
                            have HO203 := n1_
                            have BK198 := n2_
                            have BK199 := n3_
                            have HB := n4_
                            clear n0_ n1_ n2_ n3_ n4_
                            (try clear hb)
                            (try clear hb2)
                            (try clear hk)
                            (try clear hi)
                            (try clear ho0)
                            refine hK.out _ _ ⟨(blk_cell BK198.out 0).trans rfl, (blk_cell BK198.out 1).trans rfl, (blk_cell BK198.out 2).trans rfl⟩ (fun hHeld => ?_)
                            clear hK K
                            refine norm_ (a' := ?_) ?_ ?_
                            rotate_left
                            · show Act.put _ (some 45) _ = _
                              simp only [Act.put, List.setIfInBounds_toArray, List.set_cons_zero, List.set_cons_succ, i64_w, i32_w]
                              rfl
                            exact norm_ (by first | (simp only [putAll, Act.put, List.setIfInBounds_toArray, List.set_cons_zero, List.set_cons_succ]; done) | (simp only [putAll, Act.put, List.setIfInBounds_toArray, List.set_cons_zero, List.set_cons_succ]; rfl)) (hJ5_6 (v202, v205) _ ⟨hHeld, (by exact pR (Kd.R_mono HO203.out (fun _ hk => hk.2))), (by exact pR (Kd.R_mono HO206.out (fun _ hk => hk.2))), (by exact pK BK198.out), (by exact pK BK199.out), (by exact pB HB.out)⟩)
                          · skip
                            refine Kd.R_lit_step (Kd.int .i64) _ 3 ?hg (N := 51) ?hd (xs := ([rd l0_1 a1] : List Int)) (inner := [.int .i64 (rd l0_1 a1)]) (ok := fun _ => True) (okp := fun _ => True) ?hr ?hp (fun _ hk => hk) trivial (Below.refl _ _) (Nat.le_refl _) (by simp) ?_; (case hd => rfl); (case hg => rfl); (case hr => first | (go_simp; done) | (go_simp; rfl)); (case hp => exact (Reps.one (show Kd.M (Kd.int .i64) _ _ _ (rd l0_1 a1) [.int .i64 (rd l0_1 a1)] from rfl) (Reps.none _ _)))
                            intro v211 w31 ho32 hb hg_ hnew_
                            clear hg_ hnew_
                            (first | rw [← Ny210.out] at ho32 | (simp only [Int.reduceToNat] at ho32; rw [← Ny210.out] at ho32))
                            have n0_ := Aside0.mk (Kd.R_elder' (by exact pR HO206.out) (Kd.R_base ho32) hb)
                            have n1_ := Aside0.mk (Kd.R_lower (Kd.R_new' ho32 (Kd.R_lt (by exact pR HO206.out))) (below_size (by exact pB HB.out)))
                            have n2_ := Aside0.mk (blk_below (g := gb198) (o := .cells #[.int .i64 a0_0, .slice (some ad200) l0_1.length c0_1, .slice A0_2 l0_2.length c0_2] 24 (0, 0)) (by exact pK BK198.out) hb)
                            have n3_ := Aside0.mk (blk_below (g := gb199) (o := .cells #[.int .i64 0, .slice none 0 0, .slice none 0 0] 24 (0, 0)) (by exact pK BK199.out) hb)
                            have n4_ := Aside0.mk (below_step (by exact pB HB.out) hb)
                            clear HO206
                            clear BK198
                            clear BK199
                            clear HB
                            have HO206 := n0_
                            have HO212 := n1_
                            have BK198 := n2_
                            have BK199 := n3_
                            have HB := n4_
                            clear n0_ n1_ n2_ n3_ n4_
                            clear hb ho32
                            refine hK.out _ _ ⟨(blk_cell BK198.out 0).trans rfl, (blk_cell BK198.out 1).trans rfl, (blk_cell BK198.out 2).trans rfl⟩ (fun hHeld => ?_)
                            clear hK K
                            refine norm_ (a' := ?_) ?_ ?_
                            rotate_left
                            · show Act.put _ (some 51) _ = _
                              simp only [Act.put, List.setIfInBounds_toArray, List.set_cons_zero, List.set_cons_succ, i64_w, i32_w]
                              rfl
                            exact norm_ (by first | (simp only [putAll, Act.put, List.setIfInBounds_toArray, List.set_cons_zero, List.set_cons_succ]; done) | (simp only [putAll, Act.put, List.setIfInBounds_toArray, List.set_cons_zero, List.set_cons_succ]; rfl)) (hJ6_11 (v205, v211) _ ⟨hHeld, (by exact pR (Kd.R_mono HO206.out (fun _ hk => hk.2))), (by exact pR (Kd.R_mono HO212.out (fun _ hk => hk.2))), (by exact pK BK198.out), (by exact pK BK199.out), (by exact pB HB.out)⟩)
                      · skip
                        rintro v202 w29 ⟨hS_, h0_, h1_, h2_, h3_⟩
                        have n0_ : Aside0 (Kd.R (Kd.int .i64) 3 w29 w.heap.size (fun _ => True) v202 t201) := ⟨h0_⟩
                        have n1_ : Aside0 (w29.heap[gb198]? = some (.cells #[.int .i64 a0_0, .slice (some ad200) l0_1.length c0_1, .slice A0_2 l0_2.length c0_2] 24 (0, 0))) := ⟨h1_⟩
                        have n2_ : Aside0 (w29.heap[gb199]? = some (.cells #[.int .i64 0, .slice none 0 0, .slice none 0 0] 24 (0, 0))) := ⟨h2_⟩
                        have n3_ : Aside0 (Below w.heap.size w w29) := ⟨h3_⟩
                        clear BK198
                        clear BK199
                        clear HB
                        clear h0_ h1_ h2_ h3_
                        have HO203 := n0_
                        have BK198 := n1_
                        have BK199 := n2_
                        have HB := n3_
                        clear n0_ n1_ n2_ n3_
                        have hHeld : w29.cell? ⟨gb198, 0, none⟩ = some (.int .i64 a0_0) ∧ w29.cell? ⟨gb198, 1, none⟩ = some (.slice (some ad200) l0_1.length c0_1) ∧ w29.cell? ⟨gb198, 2, none⟩ = some (.slice A0_2 l0_2.length c0_2) := hS_
                        refine norm_ (a' := ?_) ?_ ?_
                        rotate_left
                        · simp only [putAll, Act.put, List.setIfInBounds_toArray, List.set_cons_zero, List.set_cons_succ]
                          rfl
                        refine two_ (i := 6) (j := 11) (Ni := some 46) (Nj := some 51) #[true, true, true, true, true, true, true, true, true, false, true, false, false, false, true, false, false, false] #[true, true, true, true, true, true, false, true, true, false, true, true, false, false, true, false, false, false] rfl rfl rfl rfl (two_of HT_.out (by kernel_rfl)) (by decide) (by decide) (fun K hK => ?_) (fun K hK => ?_)
                        · skip
                          refine Kd.R_lit_step (Kd.int .i64) _ 3 ?hg (N := 46) ?hd (xs := ([] : List Int)) (inner := []) (ok := fun _ => True) (okp := fun _ => True) ?hr ?hp (fun _ hk => hk) trivial (Below.refl _ _) (Nat.le_refl _) (by simp) ?_; (case hd => rfl); (case hg => rfl); (case hr => first | (go_simp; done) | (go_simp; rfl)); (case hp => exact (Reps.none _ _))
                          intro v205 w30 ho31 hb hg_ hnew_
                          clear hg_ hnew_
                          (first | rw [← Ny204.out] at ho31 | (simp only [Int.reduceToNat] at ho31; rw [← Ny204.out] at ho31))
                          have n0_ := Aside0.mk (Kd.R_elder' (by exact pR HO203.out) (Kd.R_base ho31) hb)
                          have n1_ := Aside0.mk (Kd.R_lower (Kd.R_new' ho31 (Kd.R_lt (by exact pR HO203.out))) (below_size (by exact pB HB.out)))
                          have n2_ := Aside0.mk (blk_below (g := gb198) (o := .cells #[.int .i64 a0_0, .slice (some ad200) l0_1.length c0_1, .slice A0_2 l0_2.length c0_2] 24 (0, 0)) (by exact pK BK198.out) hb)
                          have n3_ := Aside0.mk (blk_below (g := gb199) (o := .cells #[.int .i64 0, .slice none 0 0, .slice none 0 0] 24 (0, 0)) (by exact pK BK199.out) hb)
                          have n4_ := Aside0.mk (below_step (by exact pB HB.out) hb)
                          clear HO203
                          clear BK198
                          clear BK199
                          clear HB
                          have HO203 := n0_
                          have HO206 := n1_
                          have BK198 := n2_
                          have BK199 := n3_
                          have HB := n4_
                          clear n0_ n1_ n2_ n3_ n4_
                          clear hb ho31
                          refine hK.out _ _ ⟨(blk_cell BK198.out 0).trans rfl, (blk_cell BK198.out 1).trans rfl, (blk_cell BK198.out 2).trans rfl⟩ (fun hHeld => ?_)
                          clear hK K
                          refine norm_ (a' := ?_) ?_ ?_
                          rotate_left
                          · show Act.put _ (some 46) _ = _
                            simp only [Act.put, List.setIfInBounds_toArray, List.set_cons_zero, List.set_cons_succ, i64_w, i32_w]
                            rfl
                          exact norm_ (by first | (simp only [putAll, Act.put, List.setIfInBounds_toArray, List.set_cons_zero, List.set_cons_succ]; done) | (simp only [putAll, Act.put, List.setIfInBounds_toArray, List.set_cons_zero, List.set_cons_succ]; rfl)) (hJ5_6 (v202, v205) _ ⟨hHeld, (by exact pR (Kd.R_mono HO203.out (fun _ hk => hk.2))), (by exact pR (Kd.R_mono HO206.out (fun _ hk => hk.2))), (by exact pK BK198.out), (by exact pK BK199.out), (by exact pB HB.out)⟩)
                        · skip
                          refine Kd.R_lit_step (Kd.int .i64) _ 3 ?hg (N := 51) ?hd (xs := ([rd l0_1 a1] : List Int)) (inner := [.int .i64 (rd l0_1 a1)]) (ok := fun _ => True) (okp := fun _ => True) ?hr ?hp (fun _ hk => hk) trivial (Below.refl _ _) (Nat.le_refl _) (by simp) ?_; (case hd => rfl); (case hg => rfl); (case hr => first | (go_simp; done) | (go_simp; rfl)); (case hp => exact (Reps.one (show Kd.M (Kd.int .i64) _ _ _ (rd l0_1 a1) [.int .i64 (rd l0_1 a1)] from rfl) (Reps.none _ _)))
                          intro v211 w30 ho31 hb hg_ hnew_
                          clear hg_ hnew_
                          (first | rw [← Ny210.out] at ho31 | (simp only [Int.reduceToNat] at ho31; rw [← Ny210.out] at ho31))
                          have n0_ := Aside0.mk (Kd.R_elder' (by exact pR HO203.out) (Kd.R_base ho31) hb)
                          have n1_ := Aside0.mk (Kd.R_lower (Kd.R_new' ho31 (Kd.R_lt (by exact pR HO203.out))) (below_size (by exact pB HB.out)))
                          have n2_ := Aside0.mk (blk_below (g := gb198) (o := .cells #[.int .i64 a0_0, .slice (some ad200) l0_1.length c0_1, .slice A0_2 l0_2.length c0_2] 24 (0, 0)) (by exact pK BK198.out) hb)
                          have n3_ := Aside0.mk (blk_below (g := gb199) (o := .cells #[.int .i64 0, .slice none 0 0, .slice none 0 0] 24 (0, 0)) (by exact pK BK199.out) hb)
                          have n4_ := Aside0.mk (below_step (by exact pB HB.out) hb)
                          clear HO203
                          clear BK198
                          clear BK199
                          clear HB
                          have HO203 := n0_
                          have HO212 := n1_
                          have BK198 := n2_
                          have BK199 := n3_
                          have HB := n4_
                          clear n0_ n1_ n2_ n3_ n4_
                          clear hb ho31
                          refine hK.out _ _ ⟨(blk_cell BK198.out 0).trans rfl, (blk_cell BK198.out 1).trans rfl, (blk_cell BK198.out 2).trans rfl⟩ (fun hHeld => ?_)
                          clear hK K
                          refine norm_ (a' := ?_) ?_ ?_
                          rotate_left
                          · show Act.put _ (some 51) _ = _
                            simp only [Act.put, List.setIfInBounds_toArray, List.set_cons_zero, List.set_cons_succ, i64_w, i32_w]
                            rfl
                          exact norm_ (by first | (simp only [putAll, Act.put, List.setIfInBounds_toArray, List.set_cons_zero, List.set_cons_succ]; done) | (simp only [putAll, Act.put, List.setIfInBounds_toArray, List.set_cons_zero, List.set_cons_succ]; rfl)) (hJ5_11 (v202, v211) _ ⟨hHeld, (by exact pR (Kd.R_mono HO203.out (fun _ hk => hk.2))), (by exact pR (Kd.R_mono HO212.out (fun _ hk => hk.2))), (by exact pK BK198.out), (by exact pK BK199.out), (by exact pB HB.out)⟩)
                    · skip
                      rintro ⟨v205, v211⟩ w32 ⟨hS_, h0_, h1_, h2_, h3_, h4_⟩
                      have n0_ : Aside0 (Kd.R (Kd.int .i64) 3 w32 w.heap.size (fun k_ => some k_ ≠ (v211 : Value).ownBlock) v205 y204) := ⟨h0_⟩
                      have n1_ : Aside0 (Kd.R (Kd.int .i64) 3 w32 w.heap.size (fun k_ => some k_ ≠ (v205 : Value).ownBlock) v211 y210) := ⟨h1_⟩
                      have n2_ : Aside0 (w32.heap[gb198]? = some (.cells #[.int .i64 a0_0, .slice (some ad200) l0_1.length c0_1, .slice A0_2 l0_2.length c0_2] 24 (0, 0))) := ⟨h2_⟩
                      have n3_ : Aside0 (w32.heap[gb199]? = some (.cells #[.int .i64 0, .slice none 0 0, .slice none 0 0] 24 (0, 0))) := ⟨h3_⟩
                      have n4_ : Aside0 (Below w.heap.size w w32) := ⟨h4_⟩
                      clear BK198
                      clear BK199
                      clear HB
                      clear h0_ h1_ h2_ h3_ h4_
                      have HO206 := n0_
                      have HO212 := n1_
                      have BK198 := n2_
                      have BK199 := n3_
                      have HB := n4_
                      clear n0_ n1_ n2_ n3_ n4_
                      have hHeld : w32.cell? ⟨gb198, 0, none⟩ = some (.int .i64 a0_0) ∧ w32.cell? ⟨gb198, 1, none⟩ = some (.slice (some ad200) l0_1.length c0_1) ∧ w32.cell? ⟨gb198, 2, none⟩ = some (.slice A0_2 l0_2.length c0_2) := hS_
                      refine norm_ (a' := ?_) ?_ ?_
                      rotate_left
                      · simp only [putAll, Act.put, List.setIfInBounds_toArray, List.set_cons_zero, List.set_cons_succ]
                        rfl
                      refine one_ (i := 5) (N := some 45) #[true, true, true, true, true, true, true, true, true, false, true, true, false, false, true, false, false, false] rfl rfl (one_of HT_.out (by kernel_rfl)) (by decide) (fun K hK => ?_)
                      refine goes_ Try.func35 (by kernel_rfl) rfl #[.slice (some ad200) l0_1.length c0_1, .int .i64 a1] (by rfl) rfl rfl (by (try simp only [List.map_toArray, List.map_cons, List.map_nil]); first | done | rfl | (simp only [List.length_drop, List.length_take]; rfl)) ?_
                      with_reducible refine (customsref33_out.calls _ _ l0_1 a1 t201 _ ?side1 ?side2 A22.out).mono ?_
                      (case side1 => exact pC (Kd.C_below HR0_1.out HB.out))
                      (case side2 => exact HC0_1.out)
                      rintro e w33 ⟨v202, rfl, ho0, hb⟩
                      refine ⟨_, rfl, ?_⟩
                      have n0_ := Aside0.mk (Kd.R_elder' (by exact pR HO206.out) (Kd.R_base ho0) hb)
                      have n1_ := Aside0.mk (Kd.R_elder' (by exact pR HO212.out) (Kd.R_base ho0) hb)
                      have n2_ := Aside0.mk (Kd.R_lower (Kd.R_new' (Kd.R_new' ho0 (Kd.R_lt (by exact pR HO206.out))) (Kd.R_lt (by exact pR HO212.out))) (below_size (by exact pB HB.out)))
                      have n3_ := Aside0.mk (blk_below (g := gb198) (o := .cells #[.int .i64 a0_0, .slice (some ad200) l0_1.length c0_1, .slice A0_2 l0_2.length c0_2] 24 (0, 0)) (by exact pK BK198.out) hb)
                      have n4_ := Aside0.mk (blk_below (g := gb199) (o := .cells #[.int .i64 0, .slice none 0 0, .slice none 0 0] 24 (0, 0)) (by exact pK BK199.out) hb)
                      have n5_ := Aside0.mk (below_step (by exact pB HB.out) hb)
                      clear HO206
                      clear HO212
                      clear BK198
                      clear BK199
                      clear HB
                      have HO206 := n0_
                      have HO212 := n1_
                      have HO203 := n2_
                      have BK198 := n3_
                      have BK199 := n4_
                      have HB := n5_
                      clear n0_ n1_ n2_ n3_ n4_ n5_
                      (try clear hb)
                      (try clear hb2)
                      (try clear hk)
                      (try clear hi)
                      (try clear ho0)
                      refine hK.out _ _ ⟨(blk_cell BK198.out 0).trans rfl, (blk_cell BK198.out 1).trans rfl, (blk_cell BK198.out 2).trans rfl⟩ (fun hHeld => ?_)
                      clear hK K
                      refine norm_ (a' := ?_) ?_ ?_
                      rotate_left
                      · show Act.put _ (some 45) _ = _
                        simp only [Act.put, List.setIfInBounds_toArray, List.set_cons_zero, List.set_cons_succ, i64_w, i32_w]
                        rfl
                      exact norm_ (by first | (simp only [putAll, Act.put, List.setIfInBounds_toArray, List.set_cons_zero, List.set_cons_succ]; done) | (simp only [putAll, Act.put, List.setIfInBounds_toArray, List.set_cons_zero, List.set_cons_succ]; rfl)) (hJ5_6_11 (v202, v205, v211) _ ⟨hHeld, (by exact pR (Kd.R_mono HO203.out (fun _ hk => ⟨hk.1.2, hk.2⟩))), (by exact pR (Kd.R_mono HO206.out (fun _ hk => ⟨hk.2, hk.1⟩))), (by exact pR (Kd.R_mono HO212.out (fun _ hk => ⟨hk.2, hk.1⟩))), (by exact pK BK198.out), (by exact pK BK199.out), (by exact pB HB.out)⟩)
                  · skip
                    rintro ⟨v202, v211⟩ w31 ⟨hS_, h0_, h1_, h2_, h3_, h4_⟩
                    have n0_ : Aside0 (Kd.R (Kd.int .i64) 3 w31 w.heap.size (fun k_ => some k_ ≠ (v211 : Value).ownBlock) v202 t201) := ⟨h0_⟩
                    have n1_ : Aside0 (Kd.R (Kd.int .i64) 3 w31 w.heap.size (fun k_ => some k_ ≠ (v202 : Value).ownBlock) v211 y210) := ⟨h1_⟩
                    have n2_ : Aside0 (w31.heap[gb198]? = some (.cells #[.int .i64 a0_0, .slice (some ad200) l0_1.length c0_1, .slice A0_2 l0_2.length c0_2] 24 (0, 0))) := ⟨h2_⟩
                    have n3_ : Aside0 (w31.heap[gb199]? = some (.cells #[.int .i64 0, .slice none 0 0, .slice none 0 0] 24 (0, 0))) := ⟨h3_⟩
                    have n4_ : Aside0 (Below w.heap.size w w31) := ⟨h4_⟩
                    clear BK198
                    clear BK199
                    clear HB
                    clear h0_ h1_ h2_ h3_ h4_
                    have HO203 := n0_
                    have HO212 := n1_
                    have BK198 := n2_
                    have BK199 := n3_
                    have HB := n4_
                    clear n0_ n1_ n2_ n3_ n4_
                    have hHeld : w31.cell? ⟨gb198, 0, none⟩ = some (.int .i64 a0_0) ∧ w31.cell? ⟨gb198, 1, none⟩ = some (.slice (some ad200) l0_1.length c0_1) ∧ w31.cell? ⟨gb198, 2, none⟩ = some (.slice A0_2 l0_2.length c0_2) := hS_
                    refine norm_ (a' := ?_) ?_ ?_
                    rotate_left
                    · simp only [putAll, Act.put, List.setIfInBounds_toArray, List.set_cons_zero, List.set_cons_succ]
                      rfl
                    refine one_ (i := 6) (N := some 46) #[true, true, true, true, true, true, true, true, true, false, true, true, false, false, true, false, false, false] rfl rfl (one_of HT_.out (by kernel_rfl)) (by decide) (fun K hK => ?_)
                    refine Kd.R_lit_step (Kd.int .i64) _ 3 ?hg (N := 46) ?hd (xs := ([] : List Int)) (inner := []) (ok := fun _ => True) (okp := fun _ => True) ?hr ?hp (fun _ hk => hk) trivial (Below.refl _ _) (Nat.le_refl _) (by simp) ?_; (case hd => rfl); (case hg => rfl); (case hr => first | (go_simp; done) | (go_simp; rfl)); (case hp => exact (Reps.none _ _))
                    intro v205 w32 ho33 hb hg_ hnew_
                    clear hg_ hnew_
                    (first | rw [← Ny204.out] at ho33 | (simp only [Int.reduceToNat] at ho33; rw [← Ny204.out] at ho33))
                    have n0_ := Aside0.mk (Kd.R_elder' (by exact pR HO203.out) (Kd.R_base ho33) hb)
                    have n1_ := Aside0.mk (Kd.R_elder' (by exact pR HO212.out) (Kd.R_base ho33) hb)
                    have n2_ := Aside0.mk (Kd.R_lower (Kd.R_new' (Kd.R_new' ho33 (Kd.R_lt (by exact pR HO203.out))) (Kd.R_lt (by exact pR HO212.out))) (below_size (by exact pB HB.out)))
                    have n3_ := Aside0.mk (blk_below (g := gb198) (o := .cells #[.int .i64 a0_0, .slice (some ad200) l0_1.length c0_1, .slice A0_2 l0_2.length c0_2] 24 (0, 0)) (by exact pK BK198.out) hb)
                    have n4_ := Aside0.mk (blk_below (g := gb199) (o := .cells #[.int .i64 0, .slice none 0 0, .slice none 0 0] 24 (0, 0)) (by exact pK BK199.out) hb)
                    have n5_ := Aside0.mk (below_step (by exact pB HB.out) hb)
                    clear HO203
                    clear HO212
                    clear BK198
                    clear BK199
                    clear HB
                    have HO203 := n0_
                    have HO212 := n1_
                    have HO206 := n2_
                    have BK198 := n3_
                    have BK199 := n4_
                    have HB := n5_
                    clear n0_ n1_ n2_ n3_ n4_ n5_
                    clear hb ho33
                    refine hK.out _ _ ⟨(blk_cell BK198.out 0).trans rfl, (blk_cell BK198.out 1).trans rfl, (blk_cell BK198.out 2).trans rfl⟩ (fun hHeld => ?_)
                    clear hK K
                    refine norm_ (a' := ?_) ?_ ?_
                    rotate_left
                    · show Act.put _ (some 46) _ = _
                      simp only [Act.put, List.setIfInBounds_toArray, List.set_cons_zero, List.set_cons_succ, i64_w, i32_w]
                      rfl
                    exact norm_ (by first | (simp only [putAll, Act.put, List.setIfInBounds_toArray, List.set_cons_zero, List.set_cons_succ]; done) | (simp only [putAll, Act.put, List.setIfInBounds_toArray, List.set_cons_zero, List.set_cons_succ]; rfl)) (hJ5_6_11 (v202, v205, v211) _ ⟨hHeld, (by exact pR (Kd.R_mono HO203.out (fun _ hk => ⟨hk.2, hk.1⟩))), (by exact pR (Kd.R_mono HO206.out (fun _ hk => ⟨hk.1.2, hk.2⟩))), (by exact pR HO212.out), (by exact pK BK198.out), (by exact pK BK199.out), (by exact pB HB.out)⟩)
                · skip
                  rintro ⟨v202, v205⟩ w31 ⟨hS_, h0_, h1_, h2_, h3_, h4_⟩
                  have n0_ : Aside0 (Kd.R (Kd.int .i64) 3 w31 w.heap.size (fun k_ => some k_ ≠ (v205 : Value).ownBlock) v202 t201) := ⟨h0_⟩
                  have n1_ : Aside0 (Kd.R (Kd.int .i64) 3 w31 w.heap.size (fun k_ => some k_ ≠ (v202 : Value).ownBlock) v205 y204) := ⟨h1_⟩
                  have n2_ : Aside0 (w31.heap[gb198]? = some (.cells #[.int .i64 a0_0, .slice (some ad200) l0_1.length c0_1, .slice A0_2 l0_2.length c0_2] 24 (0, 0))) := ⟨h2_⟩
                  have n3_ : Aside0 (w31.heap[gb199]? = some (.cells #[.int .i64 0, .slice none 0 0, .slice none 0 0] 24 (0, 0))) := ⟨h3_⟩
                  have n4_ : Aside0 (Below w.heap.size w w31) := ⟨h4_⟩
                  clear BK198
                  clear BK199
                  clear HB
                  clear h0_ h1_ h2_ h3_ h4_
                  have HO203 := n0_
                  have HO206 := n1_
                  have BK198 := n2_
                  have BK199 := n3_
                  have HB := n4_
                  clear n0_ n1_ n2_ n3_ n4_
                  have hHeld : w31.cell? ⟨gb198, 0, none⟩ = some (.int .i64 a0_0) ∧ w31.cell? ⟨gb198, 1, none⟩ = some (.slice (some ad200) l0_1.length c0_1) ∧ w31.cell? ⟨gb198, 2, none⟩ = some (.slice A0_2 l0_2.length c0_2) := hS_
                  refine norm_ (a' := ?_) ?_ ?_
                  rotate_left
                  · simp only [putAll, Act.put, List.setIfInBounds_toArray, List.set_cons_zero, List.set_cons_succ]
                    rfl
                  refine two_ (i := 9) (j := 11) (Ni := some 49) (Nj := some 51) #[true, true, true, true, true, true, true, true, true, true, true, false, false, false, true, false, false, false] #[true, true, true, true, true, true, true, true, true, false, true, true, false, false, true, false, false, false] rfl rfl rfl rfl (two_of HT_.out (by kernel_rfl)) (by decide) (by decide) (fun K hK => ?_) (fun K hK => ?_)
                  · skip
                    refine Kd.R_append_rows_step (Kd.int .i64) (w0 := w) w.heap.size (by rfl) (.tmp 46) (.tmp 48) 22 3 (.int .i64 0) 8 rfl Try.underlying22 info3 rfl (by decide) (by omega) v205 y204 l0_2 _ _ _ (fun k_ => some k_ ≠ (v202 : Value).ownBlock) (fun _ => False) rfl rfl ?aO ?aR (fun _ _ h => h) (fun _ h => h.elim) ?aF ?aB ?aS ?aL ?_
                    (case aR => exact pC (Kd.C_below HR0_2.out HB.out))
                    (case aB => exact (by exact pB HB.out))
                    (case aF => exact (fun k_ hk => Kd.fresh' (Kd.R_lt (by exact pR HO203.out)) k_ hk))
                    (case aO => exact (by exact pR HO206.out))
                    (case aS => exact (below_size (by exact pB HB.out)))
                    (case aL => have := LMc23.out; omega)
                    intro v208 w32 ho hb hg hat
                    rw [← Ny207.out] at ho
                    have n0_ := Aside0.mk (blk_grown (g := gb198) (o := .cells #[.int .i64 a0_0, .slice (some ad200) l0_1.length c0_1, .slice A0_2 l0_2.length c0_2] 24 (0, 0)) (by exact pK BK198.out) hg (Kd.R_ne HO206.out BK198.out (by decide)))
                    have n1_ := Aside0.mk (blk_grown (g := gb199) (o := .cells #[.int .i64 0, .slice none 0 0, .slice none 0 0] 24 (0, 0)) (by exact pK BK199.out) hg (Kd.R_ne HO206.out BK199.out (by decide)))
                    have n2_ := Aside0.mk (Kd.R_after (ok := (fun _ => True)) (by exact pR (Kd.R_mono HO203.out (fun _ hk => ⟨trivial, hk⟩))) hg hat)
                    have n3_ := Aside0.mk (hb)
                    have n4_ := Aside0.mk (ho)
                    clear BK198
                    clear BK199
                    clear HO203
                    clear HB
                    clear HO206
                    have BK198 := n0_
                    have BK199 := n1_
                    have HO203 := n2_
                    have HB := n3_
                    have HO209 := n4_
                    clear n0_ n1_ n2_ n3_ n4_
                    clear ho hb hg hat
                    refine hK.out _ _ ⟨(blk_cell BK198.out 0).trans rfl, (blk_cell BK198.out 1).trans rfl, (blk_cell BK198.out 2).trans rfl⟩ (fun hHeld => ?_)
                    clear hK K
                    refine norm_ (a' := ?_) ?_ ?_
                    rotate_left
                    · show Act.put _ (some 49) _ = _
                      simp only [Act.put, List.setIfInBounds_toArray, List.set_cons_zero, List.set_cons_succ, i64_w, i32_w]
                      rfl
                    exact norm_ (by first | (simp only [putAll, Act.put, List.setIfInBounds_toArray, List.set_cons_zero, List.set_cons_succ]; done) | (simp only [putAll, Act.put, List.setIfInBounds_toArray, List.set_cons_zero, List.set_cons_succ]; rfl)) (hJ5_6_9 (v202, v205, v208) _ ⟨hHeld, (by exact pR (Kd.R_mono HO203.out (fun _ hk => hk.2))), (by exact pR HO209.out), (by exact pK BK198.out), (by exact pK BK199.out), (by exact pB HB.out)⟩)
                  · skip
                    refine Kd.R_lit_step (Kd.int .i64) _ 3 ?hg (N := 51) ?hd (xs := ([rd l0_1 a1] : List Int)) (inner := [.int .i64 (rd l0_1 a1)]) (ok := fun _ => True) (okp := fun _ => True) ?hr ?hp (fun _ hk => hk) trivial (Below.refl _ _) (Nat.le_refl _) (by simp) ?_; (case hd => rfl); (case hg => rfl); (case hr => first | (go_simp; done) | (go_simp; rfl)); (case hp => exact (Reps.one (show Kd.M (Kd.int .i64) _ _ _ (rd l0_1 a1) [.int .i64 (rd l0_1 a1)] from rfl) (Reps.none _ _)))
                    intro v211 w32 ho33 hb hg_ hnew_
                    clear hg_ hnew_
                    (first | rw [← Ny210.out] at ho33 | (simp only [Int.reduceToNat] at ho33; rw [← Ny210.out] at ho33))
                    have n0_ := Aside0.mk (Kd.R_elder' (by exact pR HO203.out) (Kd.R_base ho33) hb)
                    have n1_ := Aside0.mk (Kd.R_elder' (by exact pR HO206.out) (Kd.R_base ho33) hb)
                    have n2_ := Aside0.mk (Kd.R_lower (Kd.R_new' (Kd.R_new' ho33 (Kd.R_lt (by exact pR HO203.out))) (Kd.R_lt (by exact pR HO206.out))) (below_size (by exact pB HB.out)))
                    have n3_ := Aside0.mk (blk_below (g := gb198) (o := .cells #[.int .i64 a0_0, .slice (some ad200) l0_1.length c0_1, .slice A0_2 l0_2.length c0_2] 24 (0, 0)) (by exact pK BK198.out) hb)
                    have n4_ := Aside0.mk (blk_below (g := gb199) (o := .cells #[.int .i64 0, .slice none 0 0, .slice none 0 0] 24 (0, 0)) (by exact pK BK199.out) hb)
                    have n5_ := Aside0.mk (below_step (by exact pB HB.out) hb)
                    clear HO203
                    clear HO206
                    clear BK198
                    clear BK199
                    clear HB
                    have HO203 := n0_
                    have HO206 := n1_
                    have HO212 := n2_
                    have BK198 := n3_
                    have BK199 := n4_
                    have HB := n5_
                    clear n0_ n1_ n2_ n3_ n4_ n5_
                    clear hb ho33
                    refine hK.out _ _ ⟨(blk_cell BK198.out 0).trans rfl, (blk_cell BK198.out 1).trans rfl, (blk_cell BK198.out 2).trans rfl⟩ (fun hHeld => ?_)
                    clear hK K
                    refine norm_ (a' := ?_) ?_ ?_
                    rotate_left
                    · show Act.put _ (some 51) _ = _
                      simp only [Act.put, List.setIfInBounds_toArray, List.set_cons_zero, List.set_cons_succ, i64_w, i32_w]
                      rfl
                    exact norm_ (by first | (simp only [putAll, Act.put, List.setIfInBounds_toArray, List.set_cons_zero, List.set_cons_succ]; done) | (simp only [putAll, Act.put, List.setIfInBounds_toArray, List.set_cons_zero, List.set_cons_succ]; rfl)) (hJ5_6_11 (v202, v205, v211) _ ⟨hHeld, (by exact pR HO203.out), (by exact pR HO206.out), (by exact pR (Kd.R_mono HO212.out (fun _ hk => ⟨hk.1.2, hk.2⟩))), (by exact pK BK198.out), (by exact pK BK199.out), (by exact pB HB.out)⟩)
              · skip
                rintro ⟨v202, v205, v211⟩ w33 ⟨hS_, h0_, h1_, h2_, h3_, h4_, h5_⟩
                have n0_ : Aside0 (Kd.R (Kd.int .i64) 3 w33 w.heap.size (fun k_ => some k_ ≠ (v205 : Value).ownBlock ∧ some k_ ≠ (v211 : Value).ownBlock) v202 t201) := ⟨h0_⟩
                have n1_ : Aside0 (Kd.R (Kd.int .i64) 3 w33 w.heap.size (fun k_ => some k_ ≠ (v202 : Value).ownBlock ∧ some k_ ≠ (v211 : Value).ownBlock) v205 y204) := ⟨h1_⟩
                have n2_ : Aside0 (Kd.R (Kd.int .i64) 3 w33 w.heap.size (fun k_ => some k_ ≠ (v202 : Value).ownBlock ∧ some k_ ≠ (v205 : Value).ownBlock) v211 y210) := ⟨h2_⟩
                have n3_ : Aside0 (w33.heap[gb198]? = some (.cells #[.int .i64 a0_0, .slice (some ad200) l0_1.length c0_1, .slice A0_2 l0_2.length c0_2] 24 (0, 0))) := ⟨h3_⟩
                have n4_ : Aside0 (w33.heap[gb199]? = some (.cells #[.int .i64 0, .slice none 0 0, .slice none 0 0] 24 (0, 0))) := ⟨h4_⟩
                have n5_ : Aside0 (Below w.heap.size w w33) := ⟨h5_⟩
                clear BK198
                clear BK199
                clear HB
                clear h0_ h1_ h2_ h3_ h4_ h5_
                have HO203 := n0_
                have HO206 := n1_
                have HO212 := n2_
                have BK198 := n3_
                have BK199 := n4_
                have HB := n5_
                clear n0_ n1_ n2_ n3_ n4_ n5_
                have hHeld : w33.cell? ⟨gb198, 0, none⟩ = some (.int .i64 a0_0) ∧ w33.cell? ⟨gb198, 1, none⟩ = some (.slice (some ad200) l0_1.length c0_1) ∧ w33.cell? ⟨gb198, 2, none⟩ = some (.slice A0_2 l0_2.length c0_2) := hS_
                refine norm_ (a' := ?_) ?_ ?_
                rotate_left
                · simp only [putAll, Act.put, List.setIfInBounds_toArray, List.set_cons_zero, List.set_cons_succ]
                  rfl
                refine one_ (i := 9) (N := some 49) #[true, true, true, true, true, true, true, true, true, true, true, true, false, false, true, false, false, false] rfl rfl (one_of HT_.out (by kernel_rfl)) (by decide) (fun K hK => ?_)
                refine Kd.R_append_rows_step (Kd.int .i64) (w0 := w) w.heap.size (by rfl) (.tmp 46) (.tmp 48) 22 3 (.int .i64 0) 8 rfl Try.underlying22 info3 rfl (by decide) (by omega) v205 y204 l0_2 _ _ _ (fun k_ => some k_ ≠ (v202 : Value).ownBlock ∧ some k_ ≠ (v211 : Value).ownBlock) (fun _ => False) rfl rfl ?aO ?aR (fun _ _ h => h) (fun _ h => h.elim) ?aF ?aB ?aS ?aL ?_
                (case aR => exact pC (Kd.C_below HR0_2.out HB.out))
                (case aB => exact (by exact pB HB.out))
                (case aF => exact (fun k_ hk => ⟨Kd.fresh' (Kd.R_lt (by exact pR HO203.out)) k_ hk, Kd.fresh' (Kd.R_lt (by exact pR HO212.out)) k_ hk⟩))
                (case aO => exact (by exact pR HO206.out))
                (case aS => exact (below_size (by exact pB HB.out)))
                (case aL => have := LMc23.out; omega)
                intro v208 w34 ho hb hg hat
                rw [← Ny207.out] at ho
                have n0_ := Aside0.mk (blk_grown (g := gb198) (o := .cells #[.int .i64 a0_0, .slice (some ad200) l0_1.length c0_1, .slice A0_2 l0_2.length c0_2] 24 (0, 0)) (by exact pK BK198.out) hg (Kd.R_ne HO206.out BK198.out (by decide)))
                have n1_ := Aside0.mk (blk_grown (g := gb199) (o := .cells #[.int .i64 0, .slice none 0 0, .slice none 0 0] 24 (0, 0)) (by exact pK BK199.out) hg (Kd.R_ne HO206.out BK199.out (by decide)))
                have n2_ := Aside0.mk (Kd.R_after (ok := (fun k_ => some k_ ≠ (v211 : Value).ownBlock)) (by exact pR (Kd.R_mono HO203.out (fun _ hk => ⟨hk.2, hk.1⟩))) hg hat)
                have n3_ := Aside0.mk (Kd.R_after (ok := (fun k_ => some k_ ≠ (v202 : Value).ownBlock)) (by exact pR HO212.out) hg hat)
                have n4_ := Aside0.mk (hb)
                have n5_ := Aside0.mk (ho)
                clear BK198
                clear BK199
                clear HO203
                clear HO212
                clear HB
                clear HO206
                have BK198 := n0_
                have BK199 := n1_
                have HO203 := n2_
                have HO212 := n3_
                have HB := n4_
                have HO209 := n5_
                clear n0_ n1_ n2_ n3_ n4_ n5_
                clear ho hb hg hat
                refine hK.out _ _ ⟨(blk_cell BK198.out 0).trans rfl, (blk_cell BK198.out 1).trans rfl, (blk_cell BK198.out 2).trans rfl⟩ (fun hHeld => ?_)
                clear hK K
                refine norm_ (a' := ?_) ?_ ?_
                rotate_left
                · show Act.put _ (some 49) _ = _
                  simp only [Act.put, List.setIfInBounds_toArray, List.set_cons_zero, List.set_cons_succ, i64_w, i32_w]
                  rfl
                exact norm_ (by first | (simp only [putAll, Act.put, List.setIfInBounds_toArray, List.set_cons_zero, List.set_cons_succ]; done) | (simp only [putAll, Act.put, List.setIfInBounds_toArray, List.set_cons_zero, List.set_cons_succ]; rfl)) (hJ5_6_9_11 (v202, v205, v208, v211) _ ⟨hHeld, (by exact pR (Kd.R_mono HO203.out (fun _ hk => ⟨hk.2, hk.1⟩))), (by exact pR HO209.out), (by exact pR HO212.out), (by exact pK BK198.out), (by exact pK BK199.out), (by exact pB HB.out)⟩)
            · skip
              rintro ⟨v202, v205, v208⟩ w32 ⟨hS_, h0_, h1_, h2_, h3_, h4_⟩
              have n0_ : Aside0 (Kd.R (Kd.int .i64) 3 w32 w.heap.size (fun k_ => some k_ ≠ (v208 : Value).ownBlock) v202 t201) := ⟨h0_⟩
              have n1_ : Aside0 (Kd.R (Kd.int .i64) 3 w32 w.heap.size (fun k_ => some k_ ≠ (v202 : Value).ownBlock) v208 y207) := ⟨h1_⟩
              have n2_ : Aside0 (w32.heap[gb198]? = some (.cells #[.int .i64 a0_0, .slice (some ad200) l0_1.length c0_1, .slice A0_2 l0_2.length c0_2] 24 (0, 0))) := ⟨h2_⟩
              have n3_ : Aside0 (w32.heap[gb199]? = some (.cells #[.int .i64 0, .slice none 0 0, .slice none 0 0] 24 (0, 0))) := ⟨h3_⟩
              have n4_ : Aside0 (Below w.heap.size w w32) := ⟨h4_⟩
              clear BK198
              clear BK199
              clear HB
              clear h0_ h1_ h2_ h3_ h4_
              have HO203 := n0_
              have HO209 := n1_
              have BK198 := n2_
              have BK199 := n3_
              have HB := n4_
              clear n0_ n1_ n2_ n3_ n4_
              have hHeld : w32.cell? ⟨gb198, 0, none⟩ = some (.int .i64 a0_0) ∧ w32.cell? ⟨gb198, 1, none⟩ = some (.slice (some ad200) l0_1.length c0_1) ∧ w32.cell? ⟨gb198, 2, none⟩ = some (.slice A0_2 l0_2.length c0_2) := hS_
              refine norm_ (a' := ?_) ?_ ?_
              rotate_left
              · simp only [putAll, Act.put, List.setIfInBounds_toArray, List.set_cons_zero, List.set_cons_succ]
                rfl
              refine one_ (i := 11) (N := some 51) #[true, true, true, true, true, true, true, true, true, true, true, true, false, false, true, false, false, false] rfl rfl (one_of HT_.out (by kernel_rfl)) (by decide) (fun K hK => ?_)
              refine Kd.R_lit_step (Kd.int .i64) _ 3 ?hg (N := 51) ?hd (xs := ([rd l0_1 a1] : List Int)) (inner := [.int .i64 (rd l0_1 a1)]) (ok := fun _ => True) (okp := fun _ => True) ?hr ?hp (fun _ hk => hk) trivial (Below.refl _ _) (Nat.le_refl _) (by simp) ?_; (case hd => rfl); (case hg => rfl); (case hr => first | (go_simp; done) | (go_simp; rfl)); (case hp => exact (Reps.one (show Kd.M (Kd.int .i64) _ _ _ (rd l0_1 a1) [.int .i64 (rd l0_1 a1)] from rfl) (Reps.none _ _)))
              intro v211 w33 ho34 hb hg_ hnew_
              clear hg_ hnew_
              (first | rw [← Ny210.out] at ho34 | (simp only [Int.reduceToNat] at ho34; rw [← Ny210.out] at ho34))
              have n0_ := Aside0.mk (Kd.R_elder' (by exact pR HO203.out) (Kd.R_base ho34) hb)
              have n1_ := Aside0.mk (Kd.R_elder' (by exact pR HO209.out) (Kd.R_base ho34) hb)
              have n2_ := Aside0.mk (Kd.R_lower (Kd.R_new' (Kd.R_new' ho34 (Kd.R_lt (by exact pR HO203.out))) (Kd.R_lt (by exact pR HO209.out))) (below_size (by exact pB HB.out)))
              have n3_ := Aside0.mk (blk_below (g := gb198) (o := .cells #[.int .i64 a0_0, .slice (some ad200) l0_1.length c0_1, .slice A0_2 l0_2.length c0_2] 24 (0, 0)) (by exact pK BK198.out) hb)
              have n4_ := Aside0.mk (blk_below (g := gb199) (o := .cells #[.int .i64 0, .slice none 0 0, .slice none 0 0] 24 (0, 0)) (by exact pK BK199.out) hb)
              have n5_ := Aside0.mk (below_step (by exact pB HB.out) hb)
              clear HO203
              clear HO209
              clear BK198
              clear BK199
              clear HB
              have HO203 := n0_
              have HO209 := n1_
              have HO212 := n2_
              have BK198 := n3_
              have BK199 := n4_
              have HB := n5_
              clear n0_ n1_ n2_ n3_ n4_ n5_
              clear hb ho34
              refine hK.out _ _ ⟨(blk_cell BK198.out 0).trans rfl, (blk_cell BK198.out 1).trans rfl, (blk_cell BK198.out 2).trans rfl⟩ (fun hHeld => ?_)
              clear hK K
              refine norm_ (a' := ?_) ?_ ?_
              rotate_left
              · show Act.put _ (some 51) _ = _
                simp only [Act.put, List.setIfInBounds_toArray, List.set_cons_zero, List.set_cons_succ, i64_w, i32_w]
                rfl
              exact norm_ (by first | (simp only [putAll, Act.put, List.setIfInBounds_toArray, List.set_cons_zero, List.set_cons_succ]; done) | (simp only [putAll, Act.put, List.setIfInBounds_toArray, List.set_cons_zero, List.set_cons_succ]; rfl)) (hJ5_6_9_11 (v202, v205, v208, v211) _ ⟨hHeld, (by exact pR HO203.out), (by exact pR HO209.out), (by exact pR (Kd.R_mono HO212.out (fun _ hk => ⟨hk.1.2, hk.2⟩))), (by exact pK BK198.out), (by exact pK BK199.out), (by exact pB HB.out)⟩)
          rintro ⟨v202, v205, v208, v211⟩ w34 ⟨hS_, h0_, h1_, h2_, h3_, h4_, h5_⟩
          have n0_ : Aside0 (Kd.R (Kd.int .i64) 3 w34 w.heap.size (fun k_ => some k_ ≠ (v208 : Value).ownBlock ∧ some k_ ≠ (v211 : Value).ownBlock) v202 t201) := ⟨h0_⟩
          have n1_ : Aside0 (Kd.R (Kd.int .i64) 3 w34 w.heap.size (fun k_ => some k_ ≠ (v202 : Value).ownBlock ∧ some k_ ≠ (v211 : Value).ownBlock) v208 y207) := ⟨h1_⟩
          have n2_ : Aside0 (Kd.R (Kd.int .i64) 3 w34 w.heap.size (fun k_ => some k_ ≠ (v202 : Value).ownBlock ∧ some k_ ≠ (v208 : Value).ownBlock) v211 y210) := ⟨h2_⟩
          have n3_ : Aside0 (w34.heap[gb198]? = some (.cells #[.int .i64 a0_0, .slice (some ad200) l0_1.length c0_1, .slice A0_2 l0_2.length c0_2] 24 (0, 0))) := ⟨h3_⟩
          have n4_ : Aside0 (w34.heap[gb199]? = some (.cells #[.int .i64 0, .slice none 0 0, .slice none 0 0] 24 (0, 0))) := ⟨h4_⟩
          have n5_ : Aside0 (Below w.heap.size w w34) := ⟨h5_⟩
          clear BK198
          clear BK199
          clear HB
          clear h0_ h1_ h2_ h3_ h4_ h5_
          have HO203 := n0_
          have HO209 := n1_
          have HO212 := n2_
          have BK198 := n3_
          have BK199 := n4_
          have HB := n5_
          clear n0_ n1_ n2_ n3_ n4_ n5_
          have hHeld : w34.cell? ⟨gb198, 0, none⟩ = some (.int .i64 a0_0) ∧ w34.cell? ⟨gb198, 1, none⟩ = some (.slice (some ad200) l0_1.length c0_1) ∧ w34.cell? ⟨gb198, 2, none⟩ = some (.slice A0_2 l0_2.length c0_2) := hS_
          obtain ⟨Ao36, co36, eo36⟩ := Kd.R_slice HO212.out
          (first | subst eo36 | (injection eo36 with f1_ f2_ f3_; have f4_ := f1_.symm; have f5_ := f3_.symm; clear f1_ f2_ f3_; subst f4_; subst f5_))
          refine norm_ (a' := ?_) ?_ ?_
          rotate_left
          · simp only [putAll, Act.put, List.setIfInBounds_toArray, List.set_cons_zero, List.set_cons_succ]
            rfl
          refine one_ (i := 12) (N := some 52) #[true, true, true, true, true, true, true, true, true, true, true, true, true, false, true, false, false, false] rfl rfl (one_of HT_.out (by kernel_rfl)) (by decide) (fun K hK => ?_)
          refine Kd.R_append_rows_step (Kd.int .i64) (w0 := w) w.heap.size (by rfl) (.tmp 49) (.tmp 51) 22 3 (.int .i64 0) 8 rfl Try.underlying22 info3 rfl (by decide) (by omega) v208 y207 y210 _ _ _ (fun k_ => some k_ ≠ (v202 : Value).ownBlock ∧ some k_ ≠ (.slice Ao36 y210.length co36 : Value).ownBlock) (fun _ => False) rfl rfl ?aO ?aR (fun _ _ h => h) (fun _ h => h.elim) ?aF ?aB ?aS ?aL ?_
          (case aR => exact pC (Kd.R_reads' HO212.out).2.2)
          (case aB => exact (by exact pB HB.out))
          (case aF => exact (fun k_ hk => ⟨Kd.fresh' (Kd.R_lt (by exact pR HO203.out)) k_ hk, Kd.fresh' (Kd.R_lt (by exact pR HO212.out)) k_ hk⟩))
          (case aO => exact (by exact pR HO209.out))
          (case aS => exact (below_size (by exact pB HB.out)))
          (case aL => have := LMc24.out; omega)
          intro v214 w35 ho hb hg hat
          rw [← Ny213.out] at ho
          have n0_ := Aside0.mk (blk_grown (g := gb198) (o := .cells #[.int .i64 a0_0, .slice (some ad200) l0_1.length c0_1, .slice A0_2 l0_2.length c0_2] 24 (0, 0)) (by exact pK BK198.out) hg (Kd.R_ne HO209.out BK198.out (by decide)))
          have n1_ := Aside0.mk (blk_grown (g := gb199) (o := .cells #[.int .i64 0, .slice none 0 0, .slice none 0 0] 24 (0, 0)) (by exact pK BK199.out) hg (Kd.R_ne HO209.out BK199.out (by decide)))
          have n2_ := Aside0.mk (Kd.R_after (ok := (fun k_ => some k_ ≠ (.slice Ao36 y210.length co36 : Value).ownBlock)) (by exact pR (Kd.R_mono HO203.out (fun _ hk => ⟨hk.2, hk.1⟩))) hg hat)
          have n3_ := Aside0.mk (Kd.R_after (ok := (fun k_ => some k_ ≠ (v202 : Value).ownBlock)) (by exact pR HO212.out) hg hat)
          have n4_ := Aside0.mk (hb)
          have n5_ := Aside0.mk (ho)
          clear BK198
          clear BK199
          clear HO203
          clear HO212
          clear HB
          clear HO209
          have BK198 := n0_
          have BK199 := n1_
          have HO203 := n2_
          have HO212 := n3_
          have HB := n4_
          have HO215 := n5_
          clear n0_ n1_ n2_ n3_ n4_ n5_
          clear ho hb hg hat
          obtain ⟨Ao37, co37, eo37⟩ := Kd.R_slice HO215.out
          (first | subst eo37 | (injection eo37 with f1_ f2_ f3_; have f4_ := f1_.symm; have f5_ := f3_.symm; clear f1_ f2_ f3_; subst f4_; subst f5_))
          obtain ⟨Ao38, co38, eo38⟩ := Kd.R_slice HO203.out
          (first | subst eo38 | (injection eo38 with f1_ f2_ f3_; have f4_ := f1_.symm; have f5_ := f3_.symm; clear f1_ f2_ f3_; subst f4_; subst f5_))
          refine hK.out _ _ ⟨(blk_cell BK198.out 0).trans rfl, (blk_cell BK198.out 1).trans rfl, (blk_cell BK198.out 2).trans rfl⟩ (fun hHeld => ?_)
          clear hK K
          refine norm_ (a' := ?_) ?_ ?_
          rotate_left
          · show Act.put _ (some 52) _ = _
            simp only [Act.put, List.setIfInBounds_toArray, List.set_cons_zero, List.set_cons_succ, i64_w, i32_w]
            rfl
          refine pure_ (i := 13) (N := some 53) (v := ?_) (a' := ?_) #[true, true, true, true, true, true, true, true, true, true, true, true, true, true, true, false, false, false] rfl rfl (any_of HT_.out (by kernel_rfl)) (fun _ _ _ h => h) (Or.inl ⟨by rfl, ?_⟩) ?_ ?_
          rotate_left
          · intro w'
            go_simp
            with_reducible rfl
          rotate_left
          · simp only [Act.put, List.setIfInBounds_toArray, List.set_cons_zero, List.set_cons_succ, i64_w, i32_w]
            rfl
          refine one_ (i := 15) (N := none) #[true, true, true, true, true, true, true, true, true, true, true, true, true, true, true, true, false, false] rfl rfl (one_of HT_.out (by kernel_rfl)) (by decide) (fun K hK => ?_)
          have hs39 : w35.cell? ⟨gb199, 0, none⟩ = some (.int .i64 0) := (blk_cell BK199.out 0).trans rfl
          have hfs39 := blk_frozen BK199.out 0
          have hns39_0 := NB198_199.out
          have hms39_0 := NB199_198.out
          have hs40 : w35.cell? ⟨gb199, 1, none⟩ = some (.slice none 0 0) := (blk_cell BK199.out 1).trans rfl
          have hfs40 := blk_frozen BK199.out 1
          have hns40_0 := NB198_199.out
          have hms40_0 := NB199_198.out
          have hs41 : w35.cell? ⟨gb199, 2, none⟩ = some (.slice none 0 0) := (blk_cell BK199.out 2).trans rfl
          have hfs41 := blk_frozen BK199.out 2
          have hns41_0 := NB198_199.out
          have hms41_0 := NB199_198.out
          refine skip_ (w1 := ?_) (by rfl) rfl ?_ ?_
          rotate_left
          · go_simp
            rfl
          refine hK.out _ _ ⟨((cell_far (p := ⟨gb199, _, none⟩) NB198_199.out _).trans (((cell_far (p := ⟨gb199, _, none⟩) NB198_199.out _).trans (((cell_far (p := ⟨gb199, _, none⟩) NB198_199.out _).trans (hHeld.1)))))), ((cell_far (p := ⟨gb199, _, none⟩) NB198_199.out _).trans (((cell_far (p := ⟨gb199, _, none⟩) NB198_199.out _).trans (((cell_far (p := ⟨gb199, _, none⟩) NB198_199.out _).trans (hHeld.2.1)))))), ((cell_far (p := ⟨gb199, _, none⟩) NB198_199.out _).trans (((cell_far (p := ⟨gb199, _, none⟩) NB198_199.out _).trans (((cell_far (p := ⟨gb199, _, none⟩) NB198_199.out _).trans (hHeld.2.2))))))⟩ (fun hHeld => ?_)
          clear hK K
          refine pure_ (i := 16) (N := some 7) (v := ?_) (a' := ?_) #[true, true, true, true, true, true, true, true, true, true, true, true, true, true, true, true, true, false] rfl rfl (any_of HT_.out (by kernel_rfl)) (fun _ _ _ h => h) (Or.inl ⟨by rfl, ?_⟩) ?_ ?_
          rotate_left
          · intro w'
            go_simp
            with_reducible rfl
          rotate_left
          · simp only [Act.put, List.setIfInBounds_toArray, List.set_cons_zero, List.set_cons_succ, i64_w, i32_w]
            rfl
          refine pure_ (i := 17) (N := some 8) (v := ?_) (a' := ?_) #[true, true, true, true, true, true, true, true, true, true, true, true, true, true, true, true, true, true] rfl rfl (any_of HT_.out (by kernel_rfl)) (fun _ _ _ h => h) (Or.inl ⟨by rfl, ?_⟩) ?_ ?_
          rotate_left
          · intro w'
            go_simp
            with_reducible rfl
          rotate_left
          · simp only [Act.put, List.setIfInBounds_toArray, List.set_cons_zero, List.set_cons_succ, i64_w, i32_w]
            rfl
          refine done_ (done_of HT_.out (by kernel_rfl)) ?_
          try go_wp2
          refine bodyPost_ret (results_ctt rfl _ _ gb199 24 #[.int .i64 a0_0, .slice Ao38 t201.length co38, .slice Ao37 y213.length co37] (0, 0) _ rfl (by (with_reducible repeat (first | refine blk_drewN ?_ _ | refine blk_drew ?_ | refine blk_alloc ?_ _)); refine blk_put (cs := #[.int .i64 a0_0, .slice Ao38 t201.length co38, .slice none 0 0]) ?_ 2 _ rfl; (with_reducible repeat (first | refine blk_drewN ?_ _ | refine blk_drew ?_ | refine blk_alloc ?_ _)); refine blk_put (cs := #[.int .i64 a0_0, .slice none 0 0, .slice none 0 0]) ?_ 1 _ rfl; (with_reducible repeat (first | refine blk_drewN ?_ _ | refine blk_drew ?_ | refine blk_alloc ?_ _)); refine blk_put (cs := #[.int .i64 0, .slice none 0 0, .slice none 0 0]) ?_ 0 _ rfl; (with_reducible repeat (first | refine blk_drewN ?_ _ | refine blk_drew ?_ | refine blk_alloc ?_ _)); exact BK199.out) Try.underlying24 rfl (by kernel_rfl)) rfl ?_
          exact ⟨_, _, by first | rfl | (simp [errW_none, errW_some] <;> rfl) | (simp [*, errW_none, errW_some] <;> rfl), by (with_reducible repeat (first | apply Kd.R_alloc | apply Kd.R_drewN | apply Kd.R_drew)); exact Kd.R_mono (Kd.R_far (p := ⟨gb199, 2, none⟩) (Kd.R_far (p := ⟨gb199, 1, none⟩) (Kd.R_far (p := ⟨gb199, 0, none⟩) (Kd.R_types HO203.out BK199.out (by decide)) (fun _ hk => hk.2) (.int .i64 a0_0)) (fun _ hk => hk.2) (.slice Ao38 t201.length co38)) (fun _ hk => hk.2) (.slice Ao37 y213.length co37)) (fun _ hk => hk.1.2), by (with_reducible repeat (first | apply Kd.R_alloc | apply Kd.R_drewN | apply Kd.R_drew)); exact Kd.R_mono (Kd.R_far (p := ⟨gb199, 2, none⟩) (Kd.R_far (p := ⟨gb199, 1, none⟩) (Kd.R_far (p := ⟨gb199, 0, none⟩) (Kd.R_types HO215.out BK199.out (by decide)) (fun _ hk => hk.2) (.int .i64 a0_0)) (fun _ hk => hk.2) (.slice Ao38 t201.length co38)) (fun _ hk => hk.2) (.slice Ao37 y213.length co37)) (fun _ hk => hk.1.1), by repeat (first | (with_reducible first | exact HB.out | apply below_alloc | apply pw_below_drewN | apply below_drew1 | refine below_set ?_ GE198.out | refine below_set ?_ GE199.out) | exact HB.out)⟩
        · rw [if_neg c21] at H
          have c21b0 : ((rd l0_1 a1) == (wrap64 (a2 + 1))) = false := beq_eq_false_iff_ne.mpr c21
          have c21b1 : ((rd l0_1 a1) != (wrap64 (a2 + 1))) = true := bne_iff_ne.mpr c21
          replace H := Option.bind_eq_some_iff.mp H
          obtain ⟨t216, A420, H⟩ := H
          replace H : ((some (([] : List Int) : List Int)).bind fun y219 => (if y219.length + l0_2.length < 17592186044416 then ((some (y219 ++ l0_2 : List Int)).bind fun y222 => ((some (([a2] : List Int) : List Int)).bind fun y225 => (if y222.length + y225.length < 17592186044416 then (some (a0_0, t216, (y222 ++ y225), rd l0_1 a1, 0)) else (none)))) else (none))) = some (r1, r2, r3, r4, r5) := H
          have A42 := Aside0.mk A420
          clear A420
          obtain ⟨y219, hy219⟩ : ∃ y_ : List Int, y_ = (([] : List Int)) := ⟨_, rfl⟩
          replace H : (if y219.length + l0_2.length < 17592186044416 then ((some (y219 ++ l0_2 : List Int)).bind fun y222 => ((some (([a2] : List Int) : List Int)).bind fun y225 => (if y222.length + y225.length < 17592186044416 then (some (a0_0, t216, (y222 ++ y225), rd l0_1 a1, 0)) else (none)))) else (none)) = some (r1, r2, r3, r4, r5) := by first | (rw [hy219]; with_reducible exact H) | (have H2_ := (Option.bind_some _ _).symm.trans H; rw [hy219]; with_reducible exact H2_) | (have H2_ := (Option.bind_some _ _).symm.trans H; with_reducible exact H2_) | with_reducible exact H | (rw [hy219]; exact H) | exact H
          have Ny219 := Aside0.mk hy219
          clear hy219
          have c43 : y219.length + l0_2.length < 17592186044416 := by
            refine Classical.byContradiction fun c43 => ?_
            rw [if_neg c43] at H
            exact absurd H (by simp)
          rw [if_pos c43] at H
          have LMc43 := Aside0.mk c43
          clear c43
          obtain ⟨y222, hy222⟩ : ∃ y_ : List Int, y_ = (y219 ++ l0_2) := ⟨_, rfl⟩
          replace H : ((some (([a2] : List Int) : List Int)).bind fun y225 => (if y222.length + y225.length < 17592186044416 then (some (a0_0, t216, (y222 ++ y225), rd l0_1 a1, 0)) else (none))) = some (r1, r2, r3, r4, r5) := by first | (rw [hy222]; with_reducible exact H) | (have H2_ := (Option.bind_some _ _).symm.trans H; rw [hy222]; with_reducible exact H2_) | (have H2_ := (Option.bind_some _ _).symm.trans H; with_reducible exact H2_) | with_reducible exact H | (rw [hy222]; exact H) | exact H
          have Ny222 := Aside0.mk hy222
          clear hy222
          obtain ⟨y225, hy225⟩ : ∃ y_ : List Int, y_ = (([a2] : List Int)) := ⟨_, rfl⟩
          replace H : (if y222.length + y225.length < 17592186044416 then (some (a0_0, t216, (y222 ++ y225), rd l0_1 a1, 0)) else (none)) = some (r1, r2, r3, r4, r5) := by first | (rw [hy225]; with_reducible exact H) | (have H2_ := (Option.bind_some _ _).symm.trans H; rw [hy225]; with_reducible exact H2_) | (have H2_ := (Option.bind_some _ _).symm.trans H; with_reducible exact H2_) | with_reducible exact H | (rw [hy225]; exact H) | exact H
          have Ny225 := Aside0.mk hy225
          clear hy225
          have c44 : y222.length + y225.length < 17592186044416 := by
            refine Classical.byContradiction fun c44 => ?_
            rw [if_neg c44] at H
            exact absurd H (by simp)
          rw [if_pos c44] at H
          have LMc44 := Aside0.mk c44
          clear c44
          obtain ⟨y228, hy228⟩ : ∃ y_ : List Int, y_ = (y222 ++ y225) := ⟨_, rfl⟩
          replace H : (some (a0_0, t216, y228, rd l0_1 a1, 0)) = some (r1, r2, r3, r4, r5) := by first | (rw [hy228]; with_reducible exact H) | (have H2_ := (Option.bind_some _ _).symm.trans H; rw [hy228]; with_reducible exact H2_) | (have H2_ := (Option.bind_some _ _).symm.trans H; with_reducible exact H2_) | with_reducible exact H | (rw [hy228]; exact H) | exact H
          have Ny228 := Aside0.mk hy228
          clear hy228
          simp only [Option.some.injEq, Prod.mk.injEq] at H
          obtain ⟨rfl, rfl, rfl, rfl, rfl⟩ := H
          have hnb45 := NB198_199.out
          have hnc45 := NB199_198.out
          have hcz46_0 : wc.cell? ⟨gb198, 0, none⟩ = some (.int .i64 a0_0) := (blk_cell BK198.out 0).trans rfl
          have hcz46_1 : wc.cell? ⟨gb198, 1, none⟩ = some (.slice A0_1 l0_1.length c0_1) := (blk_cell BK198.out 1).trans rfl
          have hcz46_2 : wc.cell? ⟨gb198, 2, none⟩ = some (.slice A0_2 l0_2.length c0_2) := (blk_cell BK198.out 2).trans rfl
          have hfz46_0 := blk_frozen BK198.out 0
          have hfz46_1 := blk_frozen BK198.out 1
          have hfz46_2 := blk_frozen BK198.out 2
          have p200 : 0 ≤ (a1 : Int) := of_decide_eq_true (by first | (with_reducible assumption) | assumption)
          have q200 : a1 < (l0_1.length : Int) := of_decide_eq_true (by first | (with_reducible assumption) | assumption)
          obtain ⟨ad200, e200, hx200_0⟩ := Kd.at_int HR0_1.out a1 p200 q200
          cases e200
          replace hx200_0 := (HB.out.cell (World.block_lt_of_cell? w _ hx200_0)).trans hx200_0
          replace p200 := eq_true p200
          replace q200 := eq_true q200
          try go_wp2
          have n0_ := Aside0.mk (blk_drew BK198.out)
          have n1_ := Aside0.mk (blk_drew BK199.out)
          have n2_ := Aside0.mk (below_drew1 HB.out)
          clear BK198
          clear BK199
          clear HB
          have BK198 := n0_
          have BK199 := n1_
          have HB := n2_
          clear n0_ n1_ n2_
          refine start_ (n := 18) (S := fun w' => w'.cell? ⟨gb198, 0, none⟩ = some (.int .i64 a0_0) ∧ w'.cell? ⟨gb198, 1, none⟩ = some (.slice (some ad200) l0_1.length c0_1) ∧ w'.cell? ⟨gb198, 2, none⟩ = some (.slice A0_2 l0_2.length c0_2)) (ds := []) #[false, false, false, false, false, false, false, false, false, false, false, false, false, false, false, false, false, false] (by kernel_rfl) rfl rfl ⟨(blk_cell BK198.out 0).trans rfl, (blk_cell BK198.out 1).trans rfl, (blk_cell BK198.out 2).trans rfl⟩ (fun hHeld => ?_); refine with_tabW customsref33_Deliver.tab7 customsref33_Deliver.bits7 (fun HT_ HW_ => ?_)
          generalize wc.drew = w47 at BK198 BK199 HB hHeld ⊢
          refine pure_ (i := 0) (N := some 40) (v := ?_) (a' := ?_) #[true, false, false, false, false, false, false, false, false, false, false, false, false, false, false, false, false, false] rfl rfl (any_of HT_.out (by kernel_rfl)) (fun _ _ _ h => h) (Or.inl ⟨by rfl, ?_⟩) ?_ ?_
          rotate_left
          · intro w'
            go_simp
            with_reducible rfl
          rotate_left
          · simp only [Act.put, List.setIfInBounds_toArray, List.set_cons_zero, List.set_cons_succ, i64_w, i32_w]
            rfl
          refine pure_ (i := 2) (N := some 42) (v := ?_) (a' := ?_) #[true, false, true, false, false, false, false, false, false, false, false, false, false, false, false, false, false, false] rfl rfl (any_of HT_.out (by kernel_rfl)) (fun _ _ _ h => h) (Or.inl ⟨by rfl, ?_⟩) ?_ ?_
          rotate_left
          · intro w'
            go_simp
            with_reducible rfl
          rotate_left
          · simp only [Act.put, List.setIfInBounds_toArray, List.set_cons_zero, List.set_cons_succ, i64_w, i32_w]
            rfl
          refine pure_ (i := 4) (N := some 44) (v := ?_) (a' := ?_) #[true, false, true, false, true, false, false, false, false, false, false, false, false, false, false, false, false, false] rfl rfl (any_of HT_.out (by kernel_rfl)) (fun _ _ _ h => h) (Or.inl ⟨by rfl, ?_⟩) ?_ ?_
          rotate_left
          · intro w'
            go_simp
            with_reducible rfl
          rotate_left
          · simp only [Act.put, List.setIfInBounds_toArray, List.set_cons_zero, List.set_cons_succ, i64_w, i32_w]
            rfl
          refine pure_ (i := 7) (N := some 47) (v := ?_) (a' := ?_) #[true, false, true, false, true, false, false, true, false, false, false, false, false, false, false, false, false, false] rfl rfl (any_of HT_.out (by kernel_rfl)) (fun _ _ _ h => h) (Or.inl ⟨by rfl, ?_⟩) ?_ ?_
          rotate_left
          · intro w'
            go_simp
            with_reducible rfl
          rotate_left
          · simp only [Act.put, List.setIfInBounds_toArray, List.set_cons_zero, List.set_cons_succ, i64_w, i32_w]
            rfl
          refine pure_ (i := 10) (N := some 50) (v := ?_) (a' := ?_) #[true, false, true, false, true, false, false, true, false, false, true, false, false, false, false, false, false, false] rfl rfl (any_of HT_.out (by kernel_rfl)) (fun _ _ _ h => h) (Or.inl ⟨by rfl, ?_⟩) ?_ ?_
          rotate_left
          · intro w'
            go_simp
            with_reducible rfl
          rotate_left
          · simp only [Act.put, List.setIfInBounds_toArray, List.set_cons_zero, List.set_cons_succ, i64_w, i32_w]
            rfl
          refine pure_ (i := 14) (N := some 54) (v := ?_) (a' := ?_) #[true, false, true, false, true, false, false, true, false, false, true, false, false, false, true, false, false, false] rfl rfl (any_of HT_.out (by kernel_rfl)) (fun _ _ _ h => h) (Or.inl ⟨by rfl, ?_⟩) ?_ ?_
          rotate_left
          · intro w'
            go_simp
            with_reducible rfl
          rotate_left
          · simp only [Act.put, List.setIfInBounds_toArray, List.set_cons_zero, List.set_cons_succ, i64_w, i32_w]
            rfl
          refine take_ (i := 1) (N := some 41) (v := ?_) (a' := ?_) #[true, true, true, false, true, false, false, true, false, false, true, false, false, false, true, false, false, false] rfl rfl (take_ofW HT_.out HW_.out (by kernel_rfl)) (fun _ _ _ h => h) (Or.inl ⟨by rfl, ?_⟩) hHeld ?_ ?_
          rotate_left
          · rintro w' ⟨s0, s1, s2⟩
            go_simp
            with_reducible rfl
          rotate_left
          · simp only [Act.put, List.setIfInBounds_toArray, List.set_cons_zero, List.set_cons_succ, i64_w, i32_w]
            rfl
          refine take_ (i := 3) (N := some 43) (v := ?_) (a' := ?_) #[true, true, true, true, true, false, false, true, false, false, true, false, false, false, true, false, false, false] rfl rfl (take_ofW HT_.out HW_.out (by kernel_rfl)) (fun _ _ _ h => h) (Or.inl ⟨by rfl, ?_⟩) hHeld ?_ ?_
          rotate_left
          · rintro w' ⟨s0, s1, s2⟩
            go_simp
            with_reducible rfl
          rotate_left
          · simp only [Act.put, List.setIfInBounds_toArray, List.set_cons_zero, List.set_cons_succ, i64_w, i32_w]
            rfl
          refine take_ (i := 8) (N := some 48) (v := ?_) (a' := ?_) #[true, true, true, true, true, false, false, true, true, false, true, false, false, false, true, false, false, false] rfl rfl (take_ofW HT_.out HW_.out (by kernel_rfl)) (fun _ _ _ h => h) (Or.inl ⟨by rfl, ?_⟩) hHeld ?_ ?_
          rotate_left
          · rintro w' ⟨s0, s1, s2⟩
            go_simp
            with_reducible rfl
          rotate_left
          · simp only [Act.put, List.setIfInBounds_toArray, List.set_cons_zero, List.set_cons_succ, i64_w, i32_w]
            rfl
          refine join_ (σ := Value × Value × Value × Value) 5 #[true, true, true, true, true, true, true, true, true, true, true, true, false, false, true, false, false, false] (fun s_ => [(45, s_.1), (46, s_.2.1), (49, s_.2.2.1), (51, s_.2.2.2)]) (fun s_ w' => (w'.cell? ⟨gb198, 0, none⟩ = some (.int .i64 a0_0) ∧ w'.cell? ⟨gb198, 1, none⟩ = some (.slice (some ad200) l0_1.length c0_1) ∧ w'.cell? ⟨gb198, 2, none⟩ = some (.slice A0_2 l0_2.length c0_2)) ∧ (Kd.R (Kd.int .i64) 3 w' w.heap.size (fun k_ => some k_ ≠ (s_.2.2.1 : Value).ownBlock ∧ some k_ ≠ (s_.2.2.2 : Value).ownBlock) s_.1 t216) ∧ (Kd.R (Kd.int .i64) 3 w' w.heap.size (fun k_ => some k_ ≠ (s_.1 : Value).ownBlock ∧ some k_ ≠ (s_.2.2.2 : Value).ownBlock) s_.2.2.1 y222) ∧ (Kd.R (Kd.int .i64) 3 w' w.heap.size (fun k_ => some k_ ≠ (s_.1 : Value).ownBlock ∧ some k_ ≠ (s_.2.2.1 : Value).ownBlock) s_.2.2.2 y225) ∧ (w'.heap[gb198]? = some (.cells #[.int .i64 a0_0, .slice (some ad200) l0_1.length c0_1, .slice A0_2 l0_2.length c0_2] 24 (0, 0))) ∧ (w'.heap[gb199]? = some (.cells #[.int .i64 0, .slice none 0 0, .slice none 0 0] 24 (0, 0))) ∧ (Below w.heap.size w w')) ?_ ?_
          rotate_left
          · intro hJ5_6_9_11
            refine join_ (σ := Value × Value × Value) 6 #[true, true, true, true, true, true, true, true, true, true, true, false, false, false, true, false, false, false] (fun s_ => [(45, s_.1), (46, s_.2.1), (49, s_.2.2)]) (fun s_ w' => (w'.cell? ⟨gb198, 0, none⟩ = some (.int .i64 a0_0) ∧ w'.cell? ⟨gb198, 1, none⟩ = some (.slice (some ad200) l0_1.length c0_1) ∧ w'.cell? ⟨gb198, 2, none⟩ = some (.slice A0_2 l0_2.length c0_2)) ∧ (Kd.R (Kd.int .i64) 3 w' w.heap.size (fun k_ => some k_ ≠ (s_.2.2 : Value).ownBlock) s_.1 t216) ∧ (Kd.R (Kd.int .i64) 3 w' w.heap.size (fun k_ => some k_ ≠ (s_.1 : Value).ownBlock) s_.2.2 y222) ∧ (w'.heap[gb198]? = some (.cells #[.int .i64 a0_0, .slice (some ad200) l0_1.length c0_1, .slice A0_2 l0_2.length c0_2] 24 (0, 0))) ∧ (w'.heap[gb199]? = some (.cells #[.int .i64 0, .slice none 0 0, .slice none 0 0] 24 (0, 0))) ∧ (Below w.heap.size w w')) ?_ ?_
            rotate_left
            · intro hJ5_6_9
              refine join_ (σ := Value × Value × Value) 6 #[true, true, true, true, true, true, true, true, true, false, true, true, false, false, true, false, false, false] (fun s_ => [(45, s_.1), (46, s_.2.1), (51, s_.2.2)]) (fun s_ w' => (w'.cell? ⟨gb198, 0, none⟩ = some (.int .i64 a0_0) ∧ w'.cell? ⟨gb198, 1, none⟩ = some (.slice (some ad200) l0_1.length c0_1) ∧ w'.cell? ⟨gb198, 2, none⟩ = some (.slice A0_2 l0_2.length c0_2)) ∧ (Kd.R (Kd.int .i64) 3 w' w.heap.size (fun k_ => some k_ ≠ (s_.2.1 : Value).ownBlock ∧ some k_ ≠ (s_.2.2 : Value).ownBlock) s_.1 t216) ∧ (Kd.R (Kd.int .i64) 3 w' w.heap.size (fun k_ => some k_ ≠ (s_.1 : Value).ownBlock ∧ some k_ ≠ (s_.2.2 : Value).ownBlock) s_.2.1 y219) ∧ (Kd.R (Kd.int .i64) 3 w' w.heap.size (fun k_ => some k_ ≠ (s_.1 : Value).ownBlock ∧ some k_ ≠ (s_.2.1 : Value).ownBlock) s_.2.2 y225) ∧ (w'.heap[gb198]? = some (.cells #[.int .i64 a0_0, .slice (some ad200) l0_1.length c0_1, .slice A0_2 l0_2.length c0_2] 24 (0, 0))) ∧ (w'.heap[gb199]? = some (.cells #[.int .i64 0, .slice none 0 0, .slice none 0 0] 24 (0, 0))) ∧ (Below w.heap.size w w')) ?_ ?_
              rotate_left
              · intro hJ5_6_11
                refine join_ (σ := Value × Value) 7 #[true, true, true, true, true, true, true, true, true, false, true, false, false, false, true, false, false, false] (fun s_ => [(45, s_.1), (46, s_.2)]) (fun s_ w' => (w'.cell? ⟨gb198, 0, none⟩ = some (.int .i64 a0_0) ∧ w'.cell? ⟨gb198, 1, none⟩ = some (.slice (some ad200) l0_1.length c0_1) ∧ w'.cell? ⟨gb198, 2, none⟩ = some (.slice A0_2 l0_2.length c0_2)) ∧ (Kd.R (Kd.int .i64) 3 w' w.heap.size (fun k_ => some k_ ≠ (s_.2 : Value).ownBlock) s_.1 t216) ∧ (Kd.R (Kd.int .i64) 3 w' w.heap.size (fun k_ => some k_ ≠ (s_.1 : Value).ownBlock) s_.2 y219) ∧ (w'.heap[gb198]? = some (.cells #[.int .i64 a0_0, .slice (some ad200) l0_1.length c0_1, .slice A0_2 l0_2.length c0_2] 24 (0, 0))) ∧ (w'.heap[gb199]? = some (.cells #[.int .i64 0, .slice none 0 0, .slice none 0 0] 24 (0, 0))) ∧ (Below w.heap.size w w')) ?_ ?_
                rotate_left
                · intro hJ5_6
                  refine join_ (σ := Value × Value) 7 #[true, true, true, true, true, true, false, true, true, false, true, true, false, false, true, false, false, false] (fun s_ => [(45, s_.1), (51, s_.2)]) (fun s_ w' => (w'.cell? ⟨gb198, 0, none⟩ = some (.int .i64 a0_0) ∧ w'.cell? ⟨gb198, 1, none⟩ = some (.slice (some ad200) l0_1.length c0_1) ∧ w'.cell? ⟨gb198, 2, none⟩ = some (.slice A0_2 l0_2.length c0_2)) ∧ (Kd.R (Kd.int .i64) 3 w' w.heap.size (fun k_ => some k_ ≠ (s_.2 : Value).ownBlock) s_.1 t216) ∧ (Kd.R (Kd.int .i64) 3 w' w.heap.size (fun k_ => some k_ ≠ (s_.1 : Value).ownBlock) s_.2 y225) ∧ (w'.heap[gb198]? = some (.cells #[.int .i64 a0_0, .slice (some ad200) l0_1.length c0_1, .slice A0_2 l0_2.length c0_2] 24 (0, 0))) ∧ (w'.heap[gb199]? = some (.cells #[.int .i64 0, .slice none 0 0, .slice none 0 0] 24 (0, 0))) ∧ (Below w.heap.size w w')) ?_ ?_
                  rotate_left
                  · intro hJ5_11
                    refine join_ (σ := Value × Value) 7 #[true, true, true, true, true, false, true, true, true, false, true, true, false, false, true, false, false, false] (fun s_ => [(46, s_.1), (51, s_.2)]) (fun s_ w' => (w'.cell? ⟨gb198, 0, none⟩ = some (.int .i64 a0_0) ∧ w'.cell? ⟨gb198, 1, none⟩ = some (.slice (some ad200) l0_1.length c0_1) ∧ w'.cell? ⟨gb198, 2, none⟩ = some (.slice A0_2 l0_2.length c0_2)) ∧ (Kd.R (Kd.int .i64) 3 w' w.heap.size (fun k_ => some k_ ≠ (s_.2 : Value).ownBlock) s_.1 y219) ∧ (Kd.R (Kd.int .i64) 3 w' w.heap.size (fun k_ => some k_ ≠ (s_.1 : Value).ownBlock) s_.2 y225) ∧ (w'.heap[gb198]? = some (.cells #[.int .i64 a0_0, .slice (some ad200) l0_1.length c0_1, .slice A0_2 l0_2.length c0_2] 24 (0, 0))) ∧ (w'.heap[gb199]? = some (.cells #[.int .i64 0, .slice none 0 0, .slice none 0 0] 24 (0, 0))) ∧ (Below w.heap.size w w')) ?_ ?_
                    rotate_left
                    · intro hJ6_11
                      refine join_ (σ := Value) 8 #[true, true, true, true, true, true, false, true, true, false, true, false, false, false, true, false, false, false] (fun s_ => [(45, s_)]) (fun s_ w' => (w'.cell? ⟨gb198, 0, none⟩ = some (.int .i64 a0_0) ∧ w'.cell? ⟨gb198, 1, none⟩ = some (.slice (some ad200) l0_1.length c0_1) ∧ w'.cell? ⟨gb198, 2, none⟩ = some (.slice A0_2 l0_2.length c0_2)) ∧ (Kd.R (Kd.int .i64) 3 w' w.heap.size (fun _ => True) s_ t216) ∧ (w'.heap[gb198]? = some (.cells #[.int .i64 a0_0, .slice (some ad200) l0_1.length c0_1, .slice A0_2 l0_2.length c0_2] 24 (0, 0))) ∧ (w'.heap[gb199]? = some (.cells #[.int .i64 0, .slice none 0 0, .slice none 0 0] 24 (0, 0))) ∧ (Below w.heap.size w w')) ?_ ?_
                      rotate_left
                      · intro hJ5
                        refine join_ (σ := Value) 8 #[true, true, true, true, true, false, true, true, true, false, true, false, false, false, true, false, false, false] (fun s_ => [(46, s_)]) (fun s_ w' => (w'.cell? ⟨gb198, 0, none⟩ = some (.int .i64 a0_0) ∧ w'.cell? ⟨gb198, 1, none⟩ = some (.slice (some ad200) l0_1.length c0_1) ∧ w'.cell? ⟨gb198, 2, none⟩ = some (.slice A0_2 l0_2.length c0_2)) ∧ (Kd.R (Kd.int .i64) 3 w' w.heap.size (fun _ => True) s_ y219) ∧ (w'.heap[gb198]? = some (.cells #[.int .i64 a0_0, .slice (some ad200) l0_1.length c0_1, .slice A0_2 l0_2.length c0_2] 24 (0, 0))) ∧ (w'.heap[gb199]? = some (.cells #[.int .i64 0, .slice none 0 0, .slice none 0 0] 24 (0, 0))) ∧ (Below w.heap.size w w')) ?_ ?_
                        rotate_left
                        · intro hJ6
                          refine join_ (σ := Value) 8 #[true, true, true, true, true, false, false, true, true, false, true, true, false, false, true, false, false, false] (fun s_ => [(51, s_)]) (fun s_ w' => (w'.cell? ⟨gb198, 0, none⟩ = some (.int .i64 a0_0) ∧ w'.cell? ⟨gb198, 1, none⟩ = some (.slice (some ad200) l0_1.length c0_1) ∧ w'.cell? ⟨gb198, 2, none⟩ = some (.slice A0_2 l0_2.length c0_2)) ∧ (Kd.R (Kd.int .i64) 3 w' w.heap.size (fun _ => True) s_ y225) ∧ (w'.heap[gb198]? = some (.cells #[.int .i64 a0_0, .slice (some ad200) l0_1.length c0_1, .slice A0_2 l0_2.length c0_2] 24 (0, 0))) ∧ (w'.heap[gb199]? = some (.cells #[.int .i64 0, .slice none 0 0, .slice none 0 0] 24 (0, 0))) ∧ (Below w.heap.size w w')) ?_ ?_
                          rotate_left
                          · intro hJ11
                            refine three_ (i := 5) (j := 6) (k := 11) (Ni := some 45) (Nj := some 46) (Nk := some 51) #[true, true, true, true, true, true, false, true, true, false, true, false, false, false, true, false, false, false] #[true, true, true, true, true, false, true, true, true, false, true, false, false, false, true, false, false, false] #[true, true, true, true, true, false, false, true, true, false, true, true, false, false, true, false, false, false] rfl rfl rfl rfl rfl rfl (three_of HT_.out (by kernel_rfl)) (by decide) (by decide) (by decide) (fun K hK => ?_) (fun K hK => ?_) (fun K hK => ?_)
                            · skip
                              refine goes_ Try.func35 (by kernel_rfl) rfl #[.slice (some ad200) l0_1.length c0_1, .int .i64 a1] (by rfl) rfl rfl (by (try simp only [List.map_toArray, List.map_cons, List.map_nil]); first | done | rfl | (simp only [List.length_drop, List.length_take]; rfl)) ?_
                              with_reducible refine (customsref33_out.calls _ _ l0_1 a1 t216 _ ?side1 ?side2 A42.out).mono ?_
                              (case side1 => exact pC (Kd.C_below HR0_1.out HB.out))
                              (case side2 => exact HC0_1.out)
                              rintro e w48 ⟨v217, rfl, ho0, hb⟩
                              refine ⟨_, rfl, ?_⟩
                              have n0_ := Aside0.mk (Kd.R_lower ho0 (below_size (by exact pB HB.out)))
                              have n1_ := Aside0.mk (blk_below (g := gb198) (o := .cells #[.int .i64 a0_0, .slice (some ad200) l0_1.length c0_1, .slice A0_2 l0_2.length c0_2] 24 (0, 0)) (by exact pK BK198.out) hb)
                              have n2_ := Aside0.mk (blk_below (g := gb199) (o := .cells #[.int .i64 0, .slice none 0 0, .slice none 0 0] 24 (0, 0)) (by exact pK BK199.out) hb)
                              have n3_ := Aside0.mk (below_step (by exact pB HB.out) hb)
                              clear BK198
                              clear BK199
                              clear HB
                              have HO218 := n0_
                              have BK198 := n1_
                              have BK199 := n2_
                              have HB := n3_
                              clear n0_ n1_ n2_ n3_
                              (try clear hb)
                              (try clear hb2)
                              (try clear hk)
                              (try clear hi)
                              (try clear ho0)
                              refine hK.out _ _ ⟨(blk_cell BK198.out 0).trans rfl, (blk_cell BK198.out 1).trans rfl, (blk_cell BK198.out 2).trans rfl⟩ (fun hHeld => ?_)
                              clear hK K
                              refine norm_ (a' := ?_) ?_ ?_
                              rotate_left
                              · show Act.put _ (some 45) _ = _
                                simp only [Act.put, List.setIfInBounds_toArray, List.set_cons_zero, List.set_cons_succ, i64_w, i32_w]
                                rfl
                              exact norm_ (by first | (simp only [putAll, Act.put, List.setIfInBounds_toArray, List.set_cons_zero, List.set_cons_succ]; done) | (simp only [putAll, Act.put, List.setIfInBounds_toArray, List.set_cons_zero, List.set_cons_succ]; rfl)) (hJ5 (v217) _ ⟨hHeld, (by exact pR HO218.out), (by exact pK BK198.out), (by exact pK BK199.out), (by exact pB HB.out)⟩)
                            · skip
                              refine Kd.R_lit_step (Kd.int .i64) _ 3 ?hg (N := 46) ?hd (xs := ([] : List Int)) (inner := []) (ok := fun _ => True) (okp := fun _ => True) ?hr ?hp (fun _ hk => hk) trivial (Below.refl _ _) (Nat.le_refl _) (by simp) ?_; (case hd => rfl); (case hg => rfl); (case hr => first | (go_simp; done) | (go_simp; rfl)); (case hp => exact (Reps.none _ _))
                              intro v220 w48 ho49 hb hg_ hnew_
                              clear hg_ hnew_
                              (first | rw [← Ny219.out] at ho49 | (simp only [Int.reduceToNat] at ho49; rw [← Ny219.out] at ho49))
                              have n0_ := Aside0.mk (Kd.R_lower ho49 (below_size (by exact pB HB.out)))
                              have n1_ := Aside0.mk (blk_below (g := gb198) (o := .cells #[.int .i64 a0_0, .slice (some ad200) l0_1.length c0_1, .slice A0_2 l0_2.length c0_2] 24 (0, 0)) (by exact pK BK198.out) hb)
                              have n2_ := Aside0.mk (blk_below (g := gb199) (o := .cells #[.int .i64 0, .slice none 0 0, .slice none 0 0] 24 (0, 0)) (by exact pK BK199.out) hb)
                              have n3_ := Aside0.mk (below_step (by exact pB HB.out) hb)
                              clear BK198
                              clear BK199
                              clear HB
                              have HO221 := n0_
                              have BK198 := n1_
                              have BK199 := n2_
                              have HB := n3_
                              clear n0_ n1_ n2_ n3_
                              clear hb ho49
                              refine hK.out _ _ ⟨(blk_cell BK198.out 0).trans rfl, (blk_cell BK198.out 1).trans rfl, (blk_cell BK198.out 2).trans rfl⟩ (fun hHeld => ?_)
                              clear hK K
                              refine norm_ (a' := ?_) ?_ ?_
                              rotate_left
                              · show Act.put _ (some 46) _ = _
                                simp only [Act.put, List.setIfInBounds_toArray, List.set_cons_zero, List.set_cons_succ, i64_w, i32_w]
                                rfl
                              exact norm_ (by first | (simp only [putAll, Act.put, List.setIfInBounds_toArray, List.set_cons_zero, List.set_cons_succ]; done) | (simp only [putAll, Act.put, List.setIfInBounds_toArray, List.set_cons_zero, List.set_cons_succ]; rfl)) (hJ6 (v220) _ ⟨hHeld, (by exact pR HO221.out), (by exact pK BK198.out), (by exact pK BK199.out), (by exact pB HB.out)⟩)
                            · skip
                              refine Kd.R_lit_step (Kd.int .i64) _ 3 ?hg (N := 51) ?hd (xs := ([a2] : List Int)) (inner := [.int .i64 a2]) (ok := fun _ => True) (okp := fun _ => True) ?hr ?hp (fun _ hk => hk) trivial (Below.refl _ _) (Nat.le_refl _) (by simp) ?_; (case hd => rfl); (case hg => rfl); (case hr => first | (go_simp; done) | (go_simp; rfl)); (case hp => exact (Reps.one (show Kd.M (Kd.int .i64) _ _ _ a2 [.int .i64 a2] from rfl) (Reps.none _ _)))
                              intro v226 w48 ho49 hb hg_ hnew_
                              clear hg_ hnew_
                              (first | rw [← Ny225.out] at ho49 | (simp only [Int.reduceToNat] at ho49; rw [← Ny225.out] at ho49))
                              have n0_ := Aside0.mk (Kd.R_lower ho49 (below_size (by exact pB HB.out)))
                              have n1_ := Aside0.mk (blk_below (g := gb198) (o := .cells #[.int .i64 a0_0, .slice (some ad200) l0_1.length c0_1, .slice A0_2 l0_2.length c0_2] 24 (0, 0)) (by exact pK BK198.out) hb)
                              have n2_ := Aside0.mk (blk_below (g := gb199) (o := .cells #[.int .i64 0, .slice none 0 0, .slice none 0 0] 24 (0, 0)) (by exact pK BK199.out) hb)
                              have n3_ := Aside0.mk (below_step (by exact pB HB.out) hb)
                              clear BK198
                              clear BK199
                              clear HB
                              have HO227 := n0_
                              have BK198 := n1_
                              have BK199 := n2_
                              have HB := n3_
                              clear n0_ n1_ n2_ n3_
                              clear hb ho49
                              refine hK.out _ _ ⟨(blk_cell BK198.out 0).trans rfl, (blk_cell BK198.out 1).trans rfl, (blk_cell BK198.out 2).trans rfl⟩ (fun hHeld => ?_)
                              clear hK K
                              refine norm_ (a' := ?_) ?_ ?_
                              rotate_left
                              · show Act.put _ (some 51) _ = _
                                simp only [Act.put, List.setIfInBounds_toArray, List.set_cons_zero, List.set_cons_succ, i64_w, i32_w]
                                rfl
                              exact norm_ (by first | (simp only [putAll, Act.put, List.setIfInBounds_toArray, List.set_cons_zero, List.set_cons_succ]; done) | (simp only [putAll, Act.put, List.setIfInBounds_toArray, List.set_cons_zero, List.set_cons_succ]; rfl)) (hJ11 (v226) _ ⟨hHeld, (by exact pR HO227.out), (by exact pK BK198.out), (by exact pK BK199.out), (by exact pB HB.out)⟩)
                          · skip
                            rintro v226 w50 ⟨hS_, h0_, h1_, h2_, h3_⟩
                            have n0_ : Aside0 (Kd.R (Kd.int .i64) 3 w50 w.heap.size (fun _ => True) v226 y225) := ⟨h0_⟩
                            have n1_ : Aside0 (w50.heap[gb198]? = some (.cells #[.int .i64 a0_0, .slice (some ad200) l0_1.length c0_1, .slice A0_2 l0_2.length c0_2] 24 (0, 0))) := ⟨h1_⟩
                            have n2_ : Aside0 (w50.heap[gb199]? = some (.cells #[.int .i64 0, .slice none 0 0, .slice none 0 0] 24 (0, 0))) := ⟨h2_⟩
                            have n3_ : Aside0 (Below w.heap.size w w50) := ⟨h3_⟩
                            clear BK198
                            clear BK199
                            clear HB
                            clear h0_ h1_ h2_ h3_
                            have HO227 := n0_
                            have BK198 := n1_
                            have BK199 := n2_
                            have HB := n3_
                            clear n0_ n1_ n2_ n3_
                            have hHeld : w50.cell? ⟨gb198, 0, none⟩ = some (.int .i64 a0_0) ∧ w50.cell? ⟨gb198, 1, none⟩ = some (.slice (some ad200) l0_1.length c0_1) ∧ w50.cell? ⟨gb198, 2, none⟩ = some (.slice A0_2 l0_2.length c0_2) := hS_
                            refine norm_ (a' := ?_) ?_ ?_
                            rotate_left
                            · simp only [putAll, Act.put, List.setIfInBounds_toArray, List.set_cons_zero, List.set_cons_succ]
                              rfl
                            refine two_ (i := 5) (j := 6) (Ni := some 45) (Nj := some 46) #[true, true, true, true, true, true, false, true, true, false, true, true, false, false, true, false, false, false] #[true, true, true, true, true, false, true, true, true, false, true, true, false, false, true, false, false, false] rfl rfl rfl rfl (two_of HT_.out (by kernel_rfl)) (by decide) (by decide) (fun K hK => ?_) (fun K hK => ?_)
                            · skip
                              refine goes_ Try.func35 (by kernel_rfl) rfl #[.slice (some ad200) l0_1.length c0_1, .int .i64 a1] (by rfl) rfl rfl (by (try simp only [List.map_toArray, List.map_cons, List.map_nil]); first | done | rfl | (simp only [List.length_drop, List.length_take]; rfl)) ?_
                              with_reducible refine (customsref33_out.calls _ _ l0_1 a1 t216 _ ?side1 ?side2 A42.out).mono ?_
                              (case side1 => exact pC (Kd.C_below HR0_1.out HB.out))
                              (case side2 => exact HC0_1.out)
                              rintro e w51 ⟨v217, rfl, ho0, hb⟩
                              refine ⟨_, rfl, ?_⟩
                              have n0_ := Aside0.mk (Kd.R_elder' (by exact pR HO227.out) (Kd.R_base ho0) hb)
                              have n1_ := Aside0.mk (Kd.R_lower (Kd.R_new' ho0 (Kd.R_lt (by exact pR HO227.out))) (below_size (by exact pB HB.out)))
                              have n2_ := Aside0.mk (blk_below (g := gb198) (o := .cells #[.int .i64 a0_0, .slice (some ad200) l0_1.length c0_1, .slice A0_2 l0_2.length c0_2] 24 (0, 0)) (by exact pK BK198.out) hb)
                              have n3_ := Aside0.mk (blk_below (g := gb199) (o := .cells #[.int .i64 0, .slice none 0 0, .slice none 0 0] 24 (0, 0)) (by exact pK BK199.out) hb)
                              have n4_ := Aside0.mk (below_step (by exact pB HB.out) hb)
                              clear HO227
                              clear BK198
                              clear BK199
                              clear HB
                              have HO227 := n0_
                              have HO218 := n1_
                              have BK198 := n2_
                              have BK199 := n3_
                              have HB := n4_
                              clear n0_ n1_ n2_ n3_ n4_
                              (try clear hb)
                              (try clear hb2)
                              (try clear hk)
                              (try clear hi)
                              (try clear ho0)
                              refine hK.out _ _ ⟨(blk_cell BK198.out 0).trans rfl, (blk_cell BK198.out 1).trans rfl, (blk_cell BK198.out 2).trans rfl⟩ (fun hHeld => ?_)
                              clear hK K
                              refine norm_ (a' := ?_) ?_ ?_
                              rotate_left
                              · show Act.put _ (some 45) _ = _
                                simp only [Act.put, List.setIfInBounds_toArray, List.set_cons_zero, List.set_cons_succ, i64_w, i32_w]
                                rfl
                              exact norm_ (by first | (simp only [putAll, Act.put, List.setIfInBounds_toArray, List.set_cons_zero, List.set_cons_succ]; done) | (simp only [putAll, Act.put, List.setIfInBounds_toArray, List.set_cons_zero, List.set_cons_succ]; rfl)) (hJ5_11 (v217, v226) _ ⟨hHeld, (by exact pR (Kd.R_mono HO218.out (fun _ hk => hk.2))), (by exact pR (Kd.R_mono HO227.out (fun _ hk => hk.2))), (by exact pK BK198.out), (by exact pK BK199.out), (by exact pB HB.out)⟩)
                            · skip
                              refine Kd.R_lit_step (Kd.int .i64) _ 3 ?hg (N := 46) ?hd (xs := ([] : List Int)) (inner := []) (ok := fun _ => True) (okp := fun _ => True) ?hr ?hp (fun _ hk => hk) trivial (Below.refl _ _) (Nat.le_refl _) (by simp) ?_; (case hd => rfl); (case hg => rfl); (case hr => first | (go_simp; done) | (go_simp; rfl)); (case hp => exact (Reps.none _ _))
                              intro v220 w51 ho52 hb hg_ hnew_
                              clear hg_ hnew_
                              (first | rw [← Ny219.out] at ho52 | (simp only [Int.reduceToNat] at ho52; rw [← Ny219.out] at ho52))
                              have n0_ := Aside0.mk (Kd.R_elder' (by exact pR HO227.out) (Kd.R_base ho52) hb)
                              have n1_ := Aside0.mk (Kd.R_lower (Kd.R_new' ho52 (Kd.R_lt (by exact pR HO227.out))) (below_size (by exact pB HB.out)))
                              have n2_ := Aside0.mk (blk_below (g := gb198) (o := .cells #[.int .i64 a0_0, .slice (some ad200) l0_1.length c0_1, .slice A0_2 l0_2.length c0_2] 24 (0, 0)) (by exact pK BK198.out) hb)
                              have n3_ := Aside0.mk (blk_below (g := gb199) (o := .cells #[.int .i64 0, .slice none 0 0, .slice none 0 0] 24 (0, 0)) (by exact pK BK199.out) hb)
                              have n4_ := Aside0.mk (below_step (by exact pB HB.out) hb)
                              clear HO227
                              clear BK198
                              clear BK199
                              clear HB
                              have HO227 := n0_
                              have HO221 := n1_
                              have BK198 := n2_
                              have BK199 := n3_
                              have HB := n4_
                              clear n0_ n1_ n2_ n3_ n4_
                              clear hb ho52
                              refine hK.out _ _ ⟨(blk_cell BK198.out 0).trans rfl, (blk_cell BK198.out 1).trans rfl, (blk_cell BK198.out 2).trans rfl⟩ (fun hHeld => ?_)
                              clear hK K
                              refine norm_ (a' := ?_) ?_ ?_
                              rotate_left
                              · show Act.put _ (some 46) _ = _
                                simp only [Act.put, List.setIfInBounds_toArray, List.set_cons_zero, List.set_cons_succ, i64_w, i32_w]
                                rfl
                              exact norm_ (by first | (simp only [putAll, Act.put, List.setIfInBounds_toArray, List.set_cons_zero, List.set_cons_succ]; done) | (simp only [putAll, Act.put, List.setIfInBounds_toArray, List.set_cons_zero, List.set_cons_succ]; rfl)) (hJ6_11 (v220, v226) _ ⟨hHeld, (by exact pR (Kd.R_mono HO221.out (fun _ hk => hk.2))), (by exact pR (Kd.R_mono HO227.out (fun _ hk => hk.2))), (by exact pK BK198.out), (by exact pK BK199.out), (by exact pB HB.out)⟩)
                        · skip
                          rintro v220 w50 ⟨hS_, h0_, h1_, h2_, h3_⟩
                          have n0_ : Aside0 (Kd.R (Kd.int .i64) 3 w50 w.heap.size (fun _ => True) v220 y219) := ⟨h0_⟩
                          have n1_ : Aside0 (w50.heap[gb198]? = some (.cells #[.int .i64 a0_0, .slice (some ad200) l0_1.length c0_1, .slice A0_2 l0_2.length c0_2] 24 (0, 0))) := ⟨h1_⟩
                          have n2_ : Aside0 (w50.heap[gb199]? = some (.cells #[.int .i64 0, .slice none 0 0, .slice none 0 0] 24 (0, 0))) := ⟨h2_⟩
                          have n3_ : Aside0 (Below w.heap.size w w50) := ⟨h3_⟩
                          clear BK198
                          clear BK199
                          clear HB
                          clear h0_ h1_ h2_ h3_
                          have HO221 := n0_
                          have BK198 := n1_
                          have BK199 := n2_
                          have HB := n3_
                          clear n0_ n1_ n2_ n3_
                          have hHeld : w50.cell? ⟨gb198, 0, none⟩ = some (.int .i64 a0_0) ∧ w50.cell? ⟨gb198, 1, none⟩ = some (.slice (some ad200) l0_1.length c0_1) ∧ w50.cell? ⟨gb198, 2, none⟩ = some (.slice A0_2 l0_2.length c0_2) := hS_
                          refine norm_ (a' := ?_) ?_ ?_
                          rotate_left
                          · simp only [putAll, Act.put, List.setIfInBounds_toArray, List.set_cons_zero, List.set_cons_succ]
                            rfl
                          refine two_ (i := 5) (j := 11) (Ni := some 45) (Nj := some 51) #[true, true, true, true, true, true, true, true, true, false, true, false, false, false, true, false, false, false] #[true, true, true, true, true, false, true, true, true, false, true, true, false, false, true, false, false, false] rfl rfl rfl rfl (two_of HT_.out (by kernel_rfl)) (by decide) (by decide) (fun K hK => ?_) (fun K hK => ?_)
                          · skip
                            refine goes_ Try.func35 (by kernel_rfl) rfl #[.slice (some ad200) l0_1.length c0_1, .int .i64 a1] (by rfl) rfl rfl (by (try simp only [List.map_toArray, List.map_cons, List.map_nil]); first | done | rfl | (simp only [List.length_drop, List.length_take]; rfl)) ?_
                            with_reducible refine (customsref33_out.calls _ _ l0_1 a1 t216 _ ?side1 ?side2 A42.out).mono ?_
                            (case side1 => exact pC (Kd.C_below HR0_1.out HB.out))
                            (case side2 => exact HC0_1.out)
                            rintro e w51 ⟨v217, rfl, ho0, hb⟩
                            refine ⟨_, rfl, ?_⟩
                            have n0_ := Aside0.mk (Kd.R_elder' (by exact pR HO221.out) (Kd.R_base ho0) hb)
                            have n1_ := Aside0.mk (Kd.R_lower (Kd.R_new' ho0 (Kd.R_lt (by exact pR HO221.out))) (below_size (by exact pB HB.out)))
                            have n2_ := Aside0.mk (blk_below (g := gb198) (o := .cells #[.int .i64 a0_0, .slice (some ad200) l0_1.length c0_1, .slice A0_2 l0_2.length c0_2] 24 (0, 0)) (by exact pK BK198.out) hb)
                            have n3_ := Aside0.mk (blk_below (g := gb199) (o := .cells #[.int .i64 0, .slice none 0 0, .slice none 0 0] 24 (0, 0)) (by exact pK BK199.out) hb)
                            have n4_ := Aside0.mk (below_step (by exact pB HB.out) hb)
                            clear HO221
                            clear BK198
                            clear BK199
                            clear HB
                            have HO221 := n0_
                            have HO218 := n1_
                            have BK198 := n2_
                            have BK199 := n3_
                            have HB := n4_
                            clear n0_ n1_ n2_ n3_ n4_
                            (try clear hb)
                            (try clear hb2)
                            (try clear hk)
                            (try clear hi)
                            (try clear ho0)
                            refine hK.out _ _ ⟨(blk_cell BK198.out 0).trans rfl, (blk_cell BK198.out 1).trans rfl, (blk_cell BK198.out 2).trans rfl⟩ (fun hHeld => ?_)
                            clear hK K
                            refine norm_ (a' := ?_) ?_ ?_
                            rotate_left
                            · show Act.put _ (some 45) _ = _
                              simp only [Act.put, List.setIfInBounds_toArray, List.set_cons_zero, List.set_cons_succ, i64_w, i32_w]
                              rfl
                            exact norm_ (by first | (simp only [putAll, Act.put, List.setIfInBounds_toArray, List.set_cons_zero, List.set_cons_succ]; done) | (simp only [putAll, Act.put, List.setIfInBounds_toArray, List.set_cons_zero, List.set_cons_succ]; rfl)) (hJ5_6 (v217, v220) _ ⟨hHeld, (by exact pR (Kd.R_mono HO218.out (fun _ hk => hk.2))), (by exact pR (Kd.R_mono HO221.out (fun _ hk => hk.2))), (by exact pK BK198.out), (by exact pK BK199.out), (by exact pB HB.out)⟩)
                          · skip
                            refine Kd.R_lit_step (Kd.int .i64) _ 3 ?hg (N := 51) ?hd (xs := ([a2] : List Int)) (inner := [.int .i64 a2]) (ok := fun _ => True) (okp := fun _ => True) ?hr ?hp (fun _ hk => hk) trivial (Below.refl _ _) (Nat.le_refl _) (by simp) ?_; (case hd => rfl); (case hg => rfl); (case hr => first | (go_simp; done) | (go_simp; rfl)); (case hp => exact (Reps.one (show Kd.M (Kd.int .i64) _ _ _ a2 [.int .i64 a2] from rfl) (Reps.none _ _)))
                            intro v226 w51 ho52 hb hg_ hnew_
                            clear hg_ hnew_
                            (first | rw [← Ny225.out] at ho52 | (simp only [Int.reduceToNat] at ho52; rw [← Ny225.out] at ho52))
                            have n0_ := Aside0.mk (Kd.R_elder' (by exact pR HO221.out) (Kd.R_base ho52) hb)
                            have n1_ := Aside0.mk (Kd.R_lower (Kd.R_new' ho52 (Kd.R_lt (by exact pR HO221.out))) (below_size (by exact pB HB.out)))
                            have n2_ := Aside0.mk (blk_below (g := gb198) (o := .cells #[.int .i64 a0_0, .slice (some ad200) l0_1.length c0_1, .slice A0_2 l0_2.length c0_2] 24 (0, 0)) (by exact pK BK198.out) hb)
                            have n3_ := Aside0.mk (blk_below (g := gb199) (o := .cells #[.int .i64 0, .slice none 0 0, .slice none 0 0] 24 (0, 0)) (by exact pK BK199.out) hb)
                            have n4_ := Aside0.mk (below_step (by exact pB HB.out) hb)
                            clear HO221
                            clear BK198
                            clear BK199
                            clear HB
                            have HO221 := n0_
                            have HO227 := n1_
                            have BK198 := n2_
                            have BK199 := n3_
                            have HB := n4_
                            clear n0_ n1_ n2_ n3_ n4_
                            clear hb ho52
                            refine hK.out _ _ ⟨(blk_cell BK198.out 0).trans rfl, (blk_cell BK198.out 1).trans rfl, (blk_cell BK198.out 2).trans rfl⟩ (fun hHeld => ?_)
                            clear hK K
                            refine norm_ (a' := ?_) ?_ ?_
                            rotate_left
                            · show Act.put _ (some 51) _ = _
                              simp only [Act.put, List.setIfInBounds_toArray, List.set_cons_zero, List.set_cons_succ, i64_w, i32_w]
                              rfl
                            exact norm_ (by first | (simp only [putAll, Act.put, List.setIfInBounds_toArray, List.set_cons_zero, List.set_cons_succ]; done) | (simp only [putAll, Act.put, List.setIfInBounds_toArray, List.set_cons_zero, List.set_cons_succ]; rfl)) (hJ6_11 (v220, v226) _ ⟨hHeld, (by exact pR (Kd.R_mono HO221.out (fun _ hk => hk.2))), (by exact pR (Kd.R_mono HO227.out (fun _ hk => hk.2))), (by exact pK BK198.out), (by exact pK BK199.out), (by exact pB HB.out)⟩)
                      · skip
                        rintro v217 w49 ⟨hS_, h0_, h1_, h2_, h3_⟩
                        have n0_ : Aside0 (Kd.R (Kd.int .i64) 3 w49 w.heap.size (fun _ => True) v217 t216) := ⟨h0_⟩
                        have n1_ : Aside0 (w49.heap[gb198]? = some (.cells #[.int .i64 a0_0, .slice (some ad200) l0_1.length c0_1, .slice A0_2 l0_2.length c0_2] 24 (0, 0))) := ⟨h1_⟩
                        have n2_ : Aside0 (w49.heap[gb199]? = some (.cells #[.int .i64 0, .slice none 0 0, .slice none 0 0] 24 (0, 0))) := ⟨h2_⟩
                        have n3_ : Aside0 (Below w.heap.size w w49) := ⟨h3_⟩
                        clear BK198
                        clear BK199
                        clear HB
                        clear h0_ h1_ h2_ h3_
                        have HO218 := n0_
                        have BK198 := n1_
                        have BK199 := n2_
                        have HB := n3_
                        clear n0_ n1_ n2_ n3_
                        have hHeld : w49.cell? ⟨gb198, 0, none⟩ = some (.int .i64 a0_0) ∧ w49.cell? ⟨gb198, 1, none⟩ = some (.slice (some ad200) l0_1.length c0_1) ∧ w49.cell? ⟨gb198, 2, none⟩ = some (.slice A0_2 l0_2.length c0_2) := hS_
                        refine norm_ (a' := ?_) ?_ ?_
                        rotate_left
                        · simp only [putAll, Act.put, List.setIfInBounds_toArray, List.set_cons_zero, List.set_cons_succ]
                          rfl
                        refine two_ (i := 6) (j := 11) (Ni := some 46) (Nj := some 51) #[true, true, true, true, true, true, true, true, true, false, true, false, false, false, true, false, false, false] #[true, true, true, true, true, true, false, true, true, false, true, true, false, false, true, false, false, false] rfl rfl rfl rfl (two_of HT_.out (by kernel_rfl)) (by decide) (by decide) (fun K hK => ?_) (fun K hK => ?_)
                        · skip
                          refine Kd.R_lit_step (Kd.int .i64) _ 3 ?hg (N := 46) ?hd (xs := ([] : List Int)) (inner := []) (ok := fun _ => True) (okp := fun _ => True) ?hr ?hp (fun _ hk => hk) trivial (Below.refl _ _) (Nat.le_refl _) (by simp) ?_; (case hd => rfl); (case hg => rfl); (case hr => first | (go_simp; done) | (go_simp; rfl)); (case hp => exact (Reps.none _ _))
                          intro v220 w50 ho51 hb hg_ hnew_
                          clear hg_ hnew_
                          (first | rw [← Ny219.out] at ho51 | (simp only [Int.reduceToNat] at ho51; rw [← Ny219.out] at ho51))
                          have n0_ := Aside0.mk (Kd.R_elder' (by exact pR HO218.out) (Kd.R_base ho51) hb)
                          have n1_ := Aside0.mk (Kd.R_lower (Kd.R_new' ho51 (Kd.R_lt (by exact pR HO218.out))) (below_size (by exact pB HB.out)))
                          have n2_ := Aside0.mk (blk_below (g := gb198) (o := .cells #[.int .i64 a0_0, .slice (some ad200) l0_1.length c0_1, .slice A0_2 l0_2.length c0_2] 24 (0, 0)) (by exact pK BK198.out) hb)
                          have n3_ := Aside0.mk (blk_below (g := gb199) (o := .cells #[.int .i64 0, .slice none 0 0, .slice none 0 0] 24 (0, 0)) (by exact pK BK199.out) hb)
                          have n4_ := Aside0.mk (below_step (by exact pB HB.out) hb)
                          clear HO218
                          clear BK198
                          clear BK199
                          clear HB
                          have HO218 := n0_
                          have HO221 := n1_
                          have BK198 := n2_
                          have BK199 := n3_
                          have HB := n4_
                          clear n0_ n1_ n2_ n3_ n4_
                          clear hb ho51
                          refine hK.out _ _ ⟨(blk_cell BK198.out 0).trans rfl, (blk_cell BK198.out 1).trans rfl, (blk_cell BK198.out 2).trans rfl⟩ (fun hHeld => ?_)
                          clear hK K
                          refine norm_ (a' := ?_) ?_ ?_
                          rotate_left
                          · show Act.put _ (some 46) _ = _
                            simp only [Act.put, List.setIfInBounds_toArray, List.set_cons_zero, List.set_cons_succ, i64_w, i32_w]
                            rfl
                          exact norm_ (by first | (simp only [putAll, Act.put, List.setIfInBounds_toArray, List.set_cons_zero, List.set_cons_succ]; done) | (simp only [putAll, Act.put, List.setIfInBounds_toArray, List.set_cons_zero, List.set_cons_succ]; rfl)) (hJ5_6 (v217, v220) _ ⟨hHeld, (by exact pR (Kd.R_mono HO218.out (fun _ hk => hk.2))), (by exact pR (Kd.R_mono HO221.out (fun _ hk => hk.2))), (by exact pK BK198.out), (by exact pK BK199.out), (by exact pB HB.out)⟩)
                        · skip
                          refine Kd.R_lit_step (Kd.int .i64) _ 3 ?hg (N := 51) ?hd (xs := ([a2] : List Int)) (inner := [.int .i64 a2]) (ok := fun _ => True) (okp := fun _ => True) ?hr ?hp (fun _ hk => hk) trivial (Below.refl _ _) (Nat.le_refl _) (by simp) ?_; (case hd => rfl); (case hg => rfl); (case hr => first | (go_simp; done) | (go_simp; rfl)); (case hp => exact (Reps.one (show Kd.M (Kd.int .i64) _ _ _ a2 [.int .i64 a2] from rfl) (Reps.none _ _)))
                          intro v226 w50 ho51 hb hg_ hnew_
                          clear hg_ hnew_
                          (first | rw [← Ny225.out] at ho51 | (simp only [Int.reduceToNat] at ho51; rw [← Ny225.out] at ho51))
                          have n0_ := Aside0.mk (Kd.R_elder' (by exact pR HO218.out) (Kd.R_base ho51) hb)
                          have n1_ := Aside0.mk (Kd.R_lower (Kd.R_new' ho51 (Kd.R_lt (by exact pR HO218.out))) (below_size (by exact pB HB.out)))
                          have n2_ := Aside0.mk (blk_below (g := gb198) (o := .cells #[.int .i64 a0_0, .slice (some ad200) l0_1.length c0_1, .slice A0_2 l0_2.length c0_2] 24 (0, 0)) (by exact pK BK198.out) hb)
                          have n3_ := Aside0.mk (blk_below (g := gb199) (o := .cells #[.int .i64 0, .slice none 0 0, .slice none 0 0] 24 (0, 0)) (by exact pK BK199.out) hb)
                          have n4_ := Aside0.mk (below_step (by exact pB HB.out) hb)
                          clear HO218
                          clear BK198
                          clear BK199
                          clear HB
                          have HO218 := n0_
                          have HO227 := n1_
                          have BK198 := n2_
                          have BK199 := n3_
                          have HB := n4_
                          clear n0_ n1_ n2_ n3_ n4_
                          clear hb ho51
                          refine hK.out _ _ ⟨(blk_cell BK198.out 0).trans rfl, (blk_cell BK198.out 1).trans rfl, (blk_cell BK198.out 2).trans rfl⟩ (fun hHeld => ?_)
                          clear hK K
                          refine norm_ (a' := ?_) ?_ ?_
                          rotate_left
                          · show Act.put _ (some 51) _ = _
                            simp only [Act.put, List.setIfInBounds_toArray, List.set_cons_zero, List.set_cons_succ, i64_w, i32_w]
                            rfl
                          exact norm_ (by first | (simp only [putAll, Act.put, List.setIfInBounds_toArray, List.set_cons_zero, List.set_cons_succ]; done) | (simp only [putAll, Act.put, List.setIfInBounds_toArray, List.set_cons_zero, List.set_cons_succ]; rfl)) (hJ5_11 (v217, v226) _ ⟨hHeld, (by exact pR (Kd.R_mono HO218.out (fun _ hk => hk.2))), (by exact pR (Kd.R_mono HO227.out (fun _ hk => hk.2))), (by exact pK BK198.out), (by exact pK BK199.out), (by exact pB HB.out)⟩)
                    · skip
                      rintro ⟨v220, v226⟩ w52 ⟨hS_, h0_, h1_, h2_, h3_, h4_⟩
                      have n0_ : Aside0 (Kd.R (Kd.int .i64) 3 w52 w.heap.size (fun k_ => some k_ ≠ (v226 : Value).ownBlock) v220 y219) := ⟨h0_⟩
                      have n1_ : Aside0 (Kd.R (Kd.int .i64) 3 w52 w.heap.size (fun k_ => some k_ ≠ (v220 : Value).ownBlock) v226 y225) := ⟨h1_⟩
                      have n2_ : Aside0 (w52.heap[gb198]? = some (.cells #[.int .i64 a0_0, .slice (some ad200) l0_1.length c0_1, .slice A0_2 l0_2.length c0_2] 24 (0, 0))) := ⟨h2_⟩
                      have n3_ : Aside0 (w52.heap[gb199]? = some (.cells #[.int .i64 0, .slice none 0 0, .slice none 0 0] 24 (0, 0))) := ⟨h3_⟩
                      have n4_ : Aside0 (Below w.heap.size w w52) := ⟨h4_⟩
                      clear BK198
                      clear BK199
                      clear HB
                      clear h0_ h1_ h2_ h3_ h4_
                      have HO221 := n0_
                      have HO227 := n1_
                      have BK198 := n2_
                      have BK199 := n3_
                      have HB := n4_
                      clear n0_ n1_ n2_ n3_ n4_
                      have hHeld : w52.cell? ⟨gb198, 0, none⟩ = some (.int .i64 a0_0) ∧ w52.cell? ⟨gb198, 1, none⟩ = some (.slice (some ad200) l0_1.length c0_1) ∧ w52.cell? ⟨gb198, 2, none⟩ = some (.slice A0_2 l0_2.length c0_2) := hS_
                      refine norm_ (a' := ?_) ?_ ?_
                      rotate_left
                      · simp only [putAll, Act.put, List.setIfInBounds_toArray, List.set_cons_zero, List.set_cons_succ]
                        rfl
                      refine one_ (i := 5) (N := some 45) #[true, true, true, true, true, true, true, true, true, false, true, true, false, false, true, false, false, false] rfl rfl (one_of HT_.out (by kernel_rfl)) (by decide) (fun K hK => ?_)
                      refine goes_ Try.func35 (by kernel_rfl) rfl #[.slice (some ad200) l0_1.length c0_1, .int .i64 a1] (by rfl) rfl rfl (by (try simp only [List.map_toArray, List.map_cons, List.map_nil]); first | done | rfl | (simp only [List.length_drop, List.length_take]; rfl)) ?_
                      with_reducible refine (customsref33_out.calls _ _ l0_1 a1 t216 _ ?side1 ?side2 A42.out).mono ?_
                      (case side1 => exact pC (Kd.C_below HR0_1.out HB.out))
                      (case side2 => exact HC0_1.out)
                      rintro e w53 ⟨v217, rfl, ho0, hb⟩
                      refine ⟨_, rfl, ?_⟩
                      have n0_ := Aside0.mk (Kd.R_elder' (by exact pR HO221.out) (Kd.R_base ho0) hb)
                      have n1_ := Aside0.mk (Kd.R_elder' (by exact pR HO227.out) (Kd.R_base ho0) hb)
                      have n2_ := Aside0.mk (Kd.R_lower (Kd.R_new' (Kd.R_new' ho0 (Kd.R_lt (by exact pR HO221.out))) (Kd.R_lt (by exact pR HO227.out))) (below_size (by exact pB HB.out)))
                      have n3_ := Aside0.mk (blk_below (g := gb198) (o := .cells #[.int .i64 a0_0, .slice (some ad200) l0_1.length c0_1, .slice A0_2 l0_2.length c0_2] 24 (0, 0)) (by exact pK BK198.out) hb)
                      have n4_ := Aside0.mk (blk_below (g := gb199) (o := .cells #[.int .i64 0, .slice none 0 0, .slice none 0 0] 24 (0, 0)) (by exact pK BK199.out) hb)
                      have n5_ := Aside0.mk (below_step (by exact pB HB.out) hb)
                      clear HO221
                      clear HO227
                      clear BK198
                      clear BK199
                      clear HB
                      have HO221 := n0_
                      have HO227 := n1_
                      have HO218 := n2_
                      have BK198 := n3_
                      have BK199 := n4_
                      have HB := n5_
                      clear n0_ n1_ n2_ n3_ n4_ n5_
                      (try clear hb)
                      (try clear hb2)
                      (try clear hk)
                      (try clear hi)
                      (try clear ho0)
                      refine hK.out _ _ ⟨(blk_cell BK198.out 0).trans rfl, (blk_cell BK198.out 1).trans rfl, (blk_cell BK198.out 2).trans rfl⟩ (fun hHeld => ?_)
                      clear hK K
                      refine norm_ (a' := ?_) ?_ ?_
                      rotate_left
                      · show Act.put _ (some 45) _ = _
                        simp only [Act.put, List.setIfInBounds_toArray, List.set_cons_zero, List.set_cons_succ, i64_w, i32_w]
                        rfl
                      exact norm_ (by first | (simp only [putAll, Act.put, List.setIfInBounds_toArray, List.set_cons_zero, List.set_cons_succ]; done) | (simp only [putAll, Act.put, List.setIfInBounds_toArray, List.set_cons_zero, List.set_cons_succ]; rfl)) (hJ5_6_11 (v217, v220, v226) _ ⟨hHeld, (by exact pR (Kd.R_mono HO218.out (fun _ hk => ⟨hk.1.2, hk.2⟩))), (by exact pR (Kd.R_mono HO221.out (fun _ hk => ⟨hk.2, hk.1⟩))), (by exact pR (Kd.R_mono HO227.out (fun _ hk => ⟨hk.2, hk.1⟩))), (by exact pK BK198.out), (by exact pK BK199.out), (by exact pB HB.out)⟩)
                  · skip
                    rintro ⟨v217, v226⟩ w51 ⟨hS_, h0_, h1_, h2_, h3_, h4_⟩
                    have n0_ : Aside0 (Kd.R (Kd.int .i64) 3 w51 w.heap.size (fun k_ => some k_ ≠ (v226 : Value).ownBlock) v217 t216) := ⟨h0_⟩
                    have n1_ : Aside0 (Kd.R (Kd.int .i64) 3 w51 w.heap.size (fun k_ => some k_ ≠ (v217 : Value).ownBlock) v226 y225) := ⟨h1_⟩
                    have n2_ : Aside0 (w51.heap[gb198]? = some (.cells #[.int .i64 a0_0, .slice (some ad200) l0_1.length c0_1, .slice A0_2 l0_2.length c0_2] 24 (0, 0))) := ⟨h2_⟩
                    have n3_ : Aside0 (w51.heap[gb199]? = some (.cells #[.int .i64 0, .slice none 0 0, .slice none 0 0] 24 (0, 0))) := ⟨h3_⟩
                    have n4_ : Aside0 (Below w.heap.size w w51) := ⟨h4_⟩
                    clear BK198
                    clear BK199
                    clear HB
                    clear h0_ h1_ h2_ h3_ h4_
                    have HO218 := n0_
                    have HO227 := n1_
                    have BK198 := n2_
                    have BK199 := n3_
                    have HB := n4_
                    clear n0_ n1_ n2_ n3_ n4_
                    have hHeld : w51.cell? ⟨gb198, 0, none⟩ = some (.int .i64 a0_0) ∧ w51.cell? ⟨gb198, 1, none⟩ = some (.slice (some ad200) l0_1.length c0_1) ∧ w51.cell? ⟨gb198, 2, none⟩ = some (.slice A0_2 l0_2.length c0_2) := hS_
                    refine norm_ (a' := ?_) ?_ ?_
                    rotate_left
                    · simp only [putAll, Act.put, List.setIfInBounds_toArray, List.set_cons_zero, List.set_cons_succ]
                      rfl
                    refine one_ (i := 6) (N := some 46) #[true, true, true, true, true, true, true, true, true, false, true, true, false, false, true, false, false, false] rfl rfl (one_of HT_.out (by kernel_rfl)) (by decide) (fun K hK => ?_)
                    refine Kd.R_lit_step (Kd.int .i64) _ 3 ?hg (N := 46) ?hd (xs := ([] : List Int)) (inner := []) (ok := fun _ => True) (okp := fun _ => True) ?hr ?hp (fun _ hk => hk) trivial (Below.refl _ _) (Nat.le_refl _) (by simp) ?_; (case hd => rfl); (case hg => rfl); (case hr => first | (go_simp; done) | (go_simp; rfl)); (case hp => exact (Reps.none _ _))
                    intro v220 w52 ho53 hb hg_ hnew_
                    clear hg_ hnew_
                    (first | rw [← Ny219.out] at ho53 | (simp only [Int.reduceToNat] at ho53; rw [← Ny219.out] at ho53))
                    have n0_ := Aside0.mk (Kd.R_elder' (by exact pR HO218.out) (Kd.R_base ho53) hb)
                    have n1_ := Aside0.mk (Kd.R_elder' (by exact pR HO227.out) (Kd.R_base ho53) hb)
                    have n2_ := Aside0.mk (Kd.R_lower (Kd.R_new' (Kd.R_new' ho53 (Kd.R_lt (by exact pR HO218.out))) (Kd.R_lt (by exact pR HO227.out))) (below_size (by exact pB HB.out)))
                    have n3_ := Aside0.mk (blk_below (g := gb198) (o := .cells #[.int .i64 a0_0, .slice (some ad200) l0_1.length c0_1, .slice A0_2 l0_2.length c0_2] 24 (0, 0)) (by exact pK BK198.out) hb)
                    have n4_ := Aside0.mk (blk_below (g := gb199) (o := .cells #[.int .i64 0, .slice none 0 0, .slice none 0 0] 24 (0, 0)) (by exact pK BK199.out) hb)
                    have n5_ := Aside0.mk (below_step (by exact pB HB.out) hb)
                    clear HO218
                    clear HO227
                    clear BK198
                    clear BK199
                    clear HB
                    have HO218 := n0_
                    have HO227 := n1_
                    have HO221 := n2_
                    have BK198 := n3_
                    have BK199 := n4_
                    have HB := n5_
                    clear n0_ n1_ n2_ n3_ n4_ n5_
                    clear hb ho53
                    refine hK.out _ _ ⟨(blk_cell BK198.out 0).trans rfl, (blk_cell BK198.out 1).trans rfl, (blk_cell BK198.out 2).trans rfl⟩ (fun hHeld => ?_)
                    clear hK K
                    refine norm_ (a' := ?_) ?_ ?_
                    rotate_left
                    · show Act.put _ (some 46) _ = _
                      simp only [Act.put, List.setIfInBounds_toArray, List.set_cons_zero, List.set_cons_succ, i64_w, i32_w]
                      rfl
                    exact norm_ (by first | (simp only [putAll, Act.put, List.setIfInBounds_toArray, List.set_cons_zero, List.set_cons_succ]; done) | (simp only [putAll, Act.put, List.setIfInBounds_toArray, List.set_cons_zero, List.set_cons_succ]; rfl)) (hJ5_6_11 (v217, v220, v226) _ ⟨hHeld, (by exact pR (Kd.R_mono HO218.out (fun _ hk => ⟨hk.2, hk.1⟩))), (by exact pR (Kd.R_mono HO221.out (fun _ hk => ⟨hk.1.2, hk.2⟩))), (by exact pR HO227.out), (by exact pK BK198.out), (by exact pK BK199.out), (by exact pB HB.out)⟩)
                · skip
                  rintro ⟨v217, v220⟩ w51 ⟨hS_, h0_, h1_, h2_, h3_, h4_⟩
                  have n0_ : Aside0 (Kd.R (Kd.int .i64) 3 w51 w.heap.size (fun k_ => some k_ ≠ (v220 : Value).ownBlock) v217 t216) := ⟨h0_⟩
                  have n1_ : Aside0 (Kd.R (Kd.int .i64) 3 w51 w.heap.size (fun k_ => some k_ ≠ (v217 : Value).ownBlock) v220 y219) := ⟨h1_⟩
                  have n2_ : Aside0 (w51.heap[gb198]? = some (.cells #[.int .i64 a0_0, .slice (some ad200) l0_1.length c0_1, .slice A0_2 l0_2.length c0_2] 24 (0, 0))) := ⟨h2_⟩
                  have n3_ : Aside0 (w51.heap[gb199]? = some (.cells #[.int .i64 0, .slice none 0 0, .slice none 0 0] 24 (0, 0))) := ⟨h3_⟩
                  have n4_ : Aside0 (Below w.heap.size w w51) := ⟨h4_⟩
                  clear BK198
                  clear BK199
                  clear HB
                  clear h0_ h1_ h2_ h3_ h4_
                  have HO218 := n0_
                  have HO221 := n1_
                  have BK198 := n2_
                  have BK199 := n3_
                  have HB := n4_
                  clear n0_ n1_ n2_ n3_ n4_
                  have hHeld : w51.cell? ⟨gb198, 0, none⟩ = some (.int .i64 a0_0) ∧ w51.cell? ⟨gb198, 1, none⟩ = some (.slice (some ad200) l0_1.length c0_1) ∧ w51.cell? ⟨gb198, 2, none⟩ = some (.slice A0_2 l0_2.length c0_2) := hS_
                  refine norm_ (a' := ?_) ?_ ?_
                  rotate_left
                  · simp only [putAll, Act.put, List.setIfInBounds_toArray, List.set_cons_zero, List.set_cons_succ]
                    rfl
                  refine two_ (i := 9) (j := 11) (Ni := some 49) (Nj := some 51) #[true, true, true, true, true, true, true, true, true, true, true, false, false, false, true, false, false, false] #[true, true, true, true, true, true, true, true, true, false, true, true, false, false, true, false, false, false] rfl rfl rfl rfl (two_of HT_.out (by kernel_rfl)) (by decide) (by decide) (fun K hK => ?_) (fun K hK => ?_)
                  · skip
                    refine Kd.R_append_rows_step (Kd.int .i64) (w0 := w) w.heap.size (by rfl) (.tmp 46) (.tmp 48) 22 3 (.int .i64 0) 8 rfl Try.underlying22 info3 rfl (by decide) (by omega) v220 y219 l0_2 _ _ _ (fun k_ => some k_ ≠ (v217 : Value).ownBlock) (fun _ => False) rfl rfl ?aO ?aR (fun _ _ h => h) (fun _ h => h.elim) ?aF ?aB ?aS ?aL ?_
                    (case aR => exact pC (Kd.C_below HR0_2.out HB.out))
                    (case aB => exact (by exact pB HB.out))
                    (case aF => exact (fun k_ hk => Kd.fresh' (Kd.R_lt (by exact pR HO218.out)) k_ hk))
                    (case aO => exact (by exact pR HO221.out))
                    (case aS => exact (below_size (by exact pB HB.out)))
                    (case aL => have := LMc43.out; omega)
                    intro v223 w52 ho hb hg hat
                    rw [← Ny222.out] at ho
                    have n0_ := Aside0.mk (blk_grown (g := gb198) (o := .cells #[.int .i64 a0_0, .slice (some ad200) l0_1.length c0_1, .slice A0_2 l0_2.length c0_2] 24 (0, 0)) (by exact pK BK198.out) hg (Kd.R_ne HO221.out BK198.out (by decide)))
                    have n1_ := Aside0.mk (blk_grown (g := gb199) (o := .cells #[.int .i64 0, .slice none 0 0, .slice none 0 0] 24 (0, 0)) (by exact pK BK199.out) hg (Kd.R_ne HO221.out BK199.out (by decide)))
                    have n2_ := Aside0.mk (Kd.R_after (ok := (fun _ => True)) (by exact pR (Kd.R_mono HO218.out (fun _ hk => ⟨trivial, hk⟩))) hg hat)
                    have n3_ := Aside0.mk (hb)
                    have n4_ := Aside0.mk (ho)
                    clear BK198
                    clear BK199
                    clear HO218
                    clear HB
                    clear HO221
                    have BK198 := n0_
                    have BK199 := n1_
                    have HO218 := n2_
                    have HB := n3_
                    have HO224 := n4_
                    clear n0_ n1_ n2_ n3_ n4_
                    clear ho hb hg hat
                    refine hK.out _ _ ⟨(blk_cell BK198.out 0).trans rfl, (blk_cell BK198.out 1).trans rfl, (blk_cell BK198.out 2).trans rfl⟩ (fun hHeld => ?_)
                    clear hK K
                    refine norm_ (a' := ?_) ?_ ?_
                    rotate_left
                    · show Act.put _ (some 49) _ = _
                      simp only [Act.put, List.setIfInBounds_toArray, List.set_cons_zero, List.set_cons_succ, i64_w, i32_w]
                      rfl
                    exact norm_ (by first | (simp only [putAll, Act.put, List.setIfInBounds_toArray, List.set_cons_zero, List.set_cons_succ]; done) | (simp only [putAll, Act.put, List.setIfInBounds_toArray, List.set_cons_zero, List.set_cons_succ]; rfl)) (hJ5_6_9 (v217, v220, v223) _ ⟨hHeld, (by exact pR (Kd.R_mono HO218.out (fun _ hk => hk.2))), (by exact pR HO224.out), (by exact pK BK198.out), (by exact pK BK199.out), (by exact pB HB.out)⟩)
                  · skip
                    refine Kd.R_lit_step (Kd.int .i64) _ 3 ?hg (N := 51) ?hd (xs := ([a2] : List Int)) (inner := [.int .i64 a2]) (ok := fun _ => True) (okp := fun _ => True) ?hr ?hp (fun _ hk => hk) trivial (Below.refl _ _) (Nat.le_refl _) (by simp) ?_; (case hd => rfl); (case hg => rfl); (case hr => first | (go_simp; done) | (go_simp; rfl)); (case hp => exact (Reps.one (show Kd.M (Kd.int .i64) _ _ _ a2 [.int .i64 a2] from rfl) (Reps.none _ _)))
                    intro v226 w52 ho53 hb hg_ hnew_
                    clear hg_ hnew_
                    (first | rw [← Ny225.out] at ho53 | (simp only [Int.reduceToNat] at ho53; rw [← Ny225.out] at ho53))
                    have n0_ := Aside0.mk (Kd.R_elder' (by exact pR HO218.out) (Kd.R_base ho53) hb)
                    have n1_ := Aside0.mk (Kd.R_elder' (by exact pR HO221.out) (Kd.R_base ho53) hb)
                    have n2_ := Aside0.mk (Kd.R_lower (Kd.R_new' (Kd.R_new' ho53 (Kd.R_lt (by exact pR HO218.out))) (Kd.R_lt (by exact pR HO221.out))) (below_size (by exact pB HB.out)))
                    have n3_ := Aside0.mk (blk_below (g := gb198) (o := .cells #[.int .i64 a0_0, .slice (some ad200) l0_1.length c0_1, .slice A0_2 l0_2.length c0_2] 24 (0, 0)) (by exact pK BK198.out) hb)
                    have n4_ := Aside0.mk (blk_below (g := gb199) (o := .cells #[.int .i64 0, .slice none 0 0, .slice none 0 0] 24 (0, 0)) (by exact pK BK199.out) hb)
                    have n5_ := Aside0.mk (below_step (by exact pB HB.out) hb)
                    clear HO218
                    clear HO221
                    clear BK198
                    clear BK199
                    clear HB
                    have HO218 := n0_
                    have HO221 := n1_
                    have HO227 := n2_
                    have BK198 := n3_
                    have BK199 := n4_
                    have HB := n5_
                    clear n0_ n1_ n2_ n3_ n4_ n5_
                    clear hb ho53
                    refine hK.out _ _ ⟨(blk_cell BK198.out 0).trans rfl, (blk_cell BK198.out 1).trans rfl, (blk_cell BK198.out 2).trans rfl⟩ (fun hHeld => ?_)
                    clear hK K
                    refine norm_ (a' := ?_) ?_ ?_
                    rotate_left
                    · show Act.put _ (some 51) _ = _
                      simp only [Act.put, List.setIfInBounds_toArray, List.set_cons_zero, List.set_cons_succ, i64_w, i32_w]
                      rfl
                    exact norm_ (by first | (simp only [putAll, Act.put, List.setIfInBounds_toArray, List.set_cons_zero, List.set_cons_succ]; done) | (simp only [putAll, Act.put, List.setIfInBounds_toArray, List.set_cons_zero, List.set_cons_succ]; rfl)) (hJ5_6_11 (v217, v220, v226) _ ⟨hHeld, (by exact pR HO218.out), (by exact pR HO221.out), (by exact pR (Kd.R_mono HO227.out (fun _ hk => ⟨hk.1.2, hk.2⟩))), (by exact pK BK198.out), (by exact pK BK199.out), (by exact pB HB.out)⟩)
              · skip
                rintro ⟨v217, v220, v226⟩ w53 ⟨hS_, h0_, h1_, h2_, h3_, h4_, h5_⟩
                have n0_ : Aside0 (Kd.R (Kd.int .i64) 3 w53 w.heap.size (fun k_ => some k_ ≠ (v220 : Value).ownBlock ∧ some k_ ≠ (v226 : Value).ownBlock) v217 t216) := ⟨h0_⟩
                have n1_ : Aside0 (Kd.R (Kd.int .i64) 3 w53 w.heap.size (fun k_ => some k_ ≠ (v217 : Value).ownBlock ∧ some k_ ≠ (v226 : Value).ownBlock) v220 y219) := ⟨h1_⟩
                have n2_ : Aside0 (Kd.R (Kd.int .i64) 3 w53 w.heap.size (fun k_ => some k_ ≠ (v217 : Value).ownBlock ∧ some k_ ≠ (v220 : Value).ownBlock) v226 y225) := ⟨h2_⟩
                have n3_ : Aside0 (w53.heap[gb198]? = some (.cells #[.int .i64 a0_0, .slice (some ad200) l0_1.length c0_1, .slice A0_2 l0_2.length c0_2] 24 (0, 0))) := ⟨h3_⟩
                have n4_ : Aside0 (w53.heap[gb199]? = some (.cells #[.int .i64 0, .slice none 0 0, .slice none 0 0] 24 (0, 0))) := ⟨h4_⟩
                have n5_ : Aside0 (Below w.heap.size w w53) := ⟨h5_⟩
                clear BK198
                clear BK199
                clear HB
                clear h0_ h1_ h2_ h3_ h4_ h5_
                have HO218 := n0_
                have HO221 := n1_
                have HO227 := n2_
                have BK198 := n3_
                have BK199 := n4_
                have HB := n5_
                clear n0_ n1_ n2_ n3_ n4_ n5_
                have hHeld : w53.cell? ⟨gb198, 0, none⟩ = some (.int .i64 a0_0) ∧ w53.cell? ⟨gb198, 1, none⟩ = some (.slice (some ad200) l0_1.length c0_1) ∧ w53.cell? ⟨gb198, 2, none⟩ = some (.slice A0_2 l0_2.length c0_2) := hS_
                refine norm_ (a' := ?_) ?_ ?_
                rotate_left
                · simp only [putAll, Act.put, List.setIfInBounds_toArray, List.set_cons_zero, List.set_cons_succ]
                  rfl
                refine one_ (i := 9) (N := some 49) #[true, true, true, true, true, true, true, true, true, true, true, true, false, false, true, false, false, false] rfl rfl (one_of HT_.out (by kernel_rfl)) (by decide) (fun K hK => ?_)
                refine Kd.R_append_rows_step (Kd.int .i64) (w0 := w) w.heap.size (by rfl) (.tmp 46) (.tmp 48) 22 3 (.int .i64 0) 8 rfl Try.underlying22 info3 rfl (by decide) (by omega) v220 y219 l0_2 _ _ _ (fun k_ => some k_ ≠ (v217 : Value).ownBlock ∧ some k_ ≠ (v226 : Value).ownBlock) (fun _ => False) rfl rfl ?aO ?aR (fun _ _ h => h) (fun _ h => h.elim) ?aF ?aB ?aS ?aL ?_
                (case aR => exact pC (Kd.C_below HR0_2.out HB.out))
                (case aB => exact (by exact pB HB.out))
                (case aF => exact (fun k_ hk => ⟨Kd.fresh' (Kd.R_lt (by exact pR HO218.out)) k_ hk, Kd.fresh' (Kd.R_lt (by exact pR HO227.out)) k_ hk⟩))
                (case aO => exact (by exact pR HO221.out))
                (case aS => exact (below_size (by exact pB HB.out)))
                (case aL => have := LMc43.out; omega)
                intro v223 w54 ho hb hg hat
                rw [← Ny222.out] at ho
                have n0_ := Aside0.mk (blk_grown (g := gb198) (o := .cells #[.int .i64 a0_0, .slice (some ad200) l0_1.length c0_1, .slice A0_2 l0_2.length c0_2] 24 (0, 0)) (by exact pK BK198.out) hg (Kd.R_ne HO221.out BK198.out (by decide)))
                have n1_ := Aside0.mk (blk_grown (g := gb199) (o := .cells #[.int .i64 0, .slice none 0 0, .slice none 0 0] 24 (0, 0)) (by exact pK BK199.out) hg (Kd.R_ne HO221.out BK199.out (by decide)))
                have n2_ := Aside0.mk (Kd.R_after (ok := (fun k_ => some k_ ≠ (v226 : Value).ownBlock)) (by exact pR (Kd.R_mono HO218.out (fun _ hk => ⟨hk.2, hk.1⟩))) hg hat)
                have n3_ := Aside0.mk (Kd.R_after (ok := (fun k_ => some k_ ≠ (v217 : Value).ownBlock)) (by exact pR HO227.out) hg hat)
                have n4_ := Aside0.mk (hb)
                have n5_ := Aside0.mk (ho)
                clear BK198
                clear BK199
                clear HO218
                clear HO227
                clear HB
                clear HO221
                have BK198 := n0_
                have BK199 := n1_
                have HO218 := n2_
                have HO227 := n3_
                have HB := n4_
                have HO224 := n5_
                clear n0_ n1_ n2_ n3_ n4_ n5_
                clear ho hb hg hat
                refine hK.out _ _ ⟨(blk_cell BK198.out 0).trans rfl, (blk_cell BK198.out 1).trans rfl, (blk_cell BK198.out 2).trans rfl⟩ (fun hHeld => ?_)
                clear hK K
                refine norm_ (a' := ?_) ?_ ?_
                rotate_left
                · show Act.put _ (some 49) _ = _
                  simp only [Act.put, List.setIfInBounds_toArray, List.set_cons_zero, List.set_cons_succ, i64_w, i32_w]
                  rfl
                exact norm_ (by first | (simp only [putAll, Act.put, List.setIfInBounds_toArray, List.set_cons_zero, List.set_cons_succ]; done) | (simp only [putAll, Act.put, List.setIfInBounds_toArray, List.set_cons_zero, List.set_cons_succ]; rfl)) (hJ5_6_9_11 (v217, v220, v223, v226) _ ⟨hHeld, (by exact pR (Kd.R_mono HO218.out (fun _ hk => ⟨hk.2, hk.1⟩))), (by exact pR HO224.out), (by exact pR HO227.out), (by exact pK BK198.out), (by exact pK BK199.out), (by exact pB HB.out)⟩)
            · skip
              rintro ⟨v217, v220, v223⟩ w52 ⟨hS_, h0_, h1_, h2_, h3_, h4_⟩
              have n0_ : Aside0 (Kd.R (Kd.int .i64) 3 w52 w.heap.size (fun k_ => some k_ ≠ (v223 : Value).ownBlock) v217 t216) := ⟨h0_⟩
              have n1_ : Aside0 (Kd.R (Kd.int .i64) 3 w52 w.heap.size (fun k_ => some k_ ≠ (v217 : Value).ownBlock) v223 y222) := ⟨h1_⟩
              have n2_ : Aside0 (w52.heap[gb198]? = some (.cells #[.int .i64 a0_0, .slice (some ad200) l0_1.length c0_1, .slice A0_2 l0_2.length c0_2] 24 (0, 0))) := ⟨h2_⟩
              have n3_ : Aside0 (w52.heap[gb199]? = some (.cells #[.int .i64 0, .slice none 0 0, .slice none 0 0] 24 (0, 0))) := ⟨h3_⟩
              have n4_ : Aside0 (Below w.heap.size w w52) := ⟨h4_⟩
              clear BK198
              clear BK199
              clear HB
              clear h0_ h1_ h2_ h3_ h4_
              have HO218 := n0_
              have HO224 := n1_
              have BK198 := n2_
              have BK199 := n3_
              have HB := n4_
              clear n0_ n1_ n2_ n3_ n4_
              have hHeld : w52.cell? ⟨gb198, 0, none⟩ = some (.int .i64 a0_0) ∧ w52.cell? ⟨gb198, 1, none⟩ = some (.slice (some ad200) l0_1.length c0_1) ∧ w52.cell? ⟨gb198, 2, none⟩ = some (.slice A0_2 l0_2.length c0_2) := hS_
              refine norm_ (a' := ?_) ?_ ?_
              rotate_left
              · simp only [putAll, Act.put, List.setIfInBounds_toArray, List.set_cons_zero, List.set_cons_succ]
                rfl
              refine one_ (i := 11) (N := some 51) #[true, true, true, true, true, true, true, true, true, true, true, true, false, false, true, false, false, false] rfl rfl (one_of HT_.out (by kernel_rfl)) (by decide) (fun K hK => ?_)
              refine Kd.R_lit_step (Kd.int .i64) _ 3 ?hg (N := 51) ?hd (xs := ([a2] : List Int)) (inner := [.int .i64 a2]) (ok := fun _ => True) (okp := fun _ => True) ?hr ?hp (fun _ hk => hk) trivial (Below.refl _ _) (Nat.le_refl _) (by simp) ?_; (case hd => rfl); (case hg => rfl); (case hr => first | (go_simp; done) | (go_simp; rfl)); (case hp => exact (Reps.one (show Kd.M (Kd.int .i64) _ _ _ a2 [.int .i64 a2] from rfl) (Reps.none _ _)))
              intro v226 w53 ho54 hb hg_ hnew_
              clear hg_ hnew_
              (first | rw [← Ny225.out] at ho54 | (simp only [Int.reduceToNat] at ho54; rw [← Ny225.out] at ho54))
              have n0_ := Aside0.mk (Kd.R_elder' (by exact pR HO218.out) (Kd.R_base ho54) hb)
              have n1_ := Aside0.mk (Kd.R_elder' (by exact pR HO224.out) (Kd.R_base ho54) hb)
              have n2_ := Aside0.mk (Kd.R_lower (Kd.R_new' (Kd.R_new' ho54 (Kd.R_lt (by exact pR HO218.out))) (Kd.R_lt (by exact pR HO224.out))) (below_size (by exact pB HB.out)))
              have n3_ := Aside0.mk (blk_below (g := gb198) (o := .cells #[.int .i64 a0_0, .slice (some ad200) l0_1.length c0_1, .slice A0_2 l0_2.length c0_2] 24 (0, 0)) (by exact pK BK198.out) hb)
              have n4_ := Aside0.mk (blk_below (g := gb199) (o := .cells #[.int .i64 0, .slice none 0 0, .slice none 0 0] 24 (0, 0)) (by exact pK BK199.out) hb)
              have n5_ := Aside0.mk (below_step (by exact pB HB.out) hb)
              clear HO218
              clear HO224
              clear BK198
              clear BK199
              clear HB
              have HO218 := n0_
              have HO224 := n1_
              have HO227 := n2_
              have BK198 := n3_
              have BK199 := n4_
              have HB := n5_
              clear n0_ n1_ n2_ n3_ n4_ n5_
              clear hb ho54
              refine hK.out _ _ ⟨(blk_cell BK198.out 0).trans rfl, (blk_cell BK198.out 1).trans rfl, (blk_cell BK198.out 2).trans rfl⟩ (fun hHeld => ?_)
              clear hK K
              refine norm_ (a' := ?_) ?_ ?_
              rotate_left
              · show Act.put _ (some 51) _ = _
                simp only [Act.put, List.setIfInBounds_toArray, List.set_cons_zero, List.set_cons_succ, i64_w, i32_w]
                rfl
              exact norm_ (by first | (simp only [putAll, Act.put, List.setIfInBounds_toArray, List.set_cons_zero, List.set_cons_succ]; done) | (simp only [putAll, Act.put, List.setIfInBounds_toArray, List.set_cons_zero, List.set_cons_succ]; rfl)) (hJ5_6_9_11 (v217, v220, v223, v226) _ ⟨hHeld, (by exact pR HO218.out), (by exact pR HO224.out), (by exact pR (Kd.R_mono HO227.out (fun _ hk => ⟨hk.1.2, hk.2⟩))), (by exact pK BK198.out), (by exact pK BK199.out), (by exact pB HB.out)⟩)
          rintro ⟨v217, v220, v223, v226⟩ w54 ⟨hS_, h0_, h1_, h2_, h3_, h4_, h5_⟩
          have n0_ : Aside0 (Kd.R (Kd.int .i64) 3 w54 w.heap.size (fun k_ => some k_ ≠ (v223 : Value).ownBlock ∧ some k_ ≠ (v226 : Value).ownBlock) v217 t216) := ⟨h0_⟩
          have n1_ : Aside0 (Kd.R (Kd.int .i64) 3 w54 w.heap.size (fun k_ => some k_ ≠ (v217 : Value).ownBlock ∧ some k_ ≠ (v226 : Value).ownBlock) v223 y222) := ⟨h1_⟩
          have n2_ : Aside0 (Kd.R (Kd.int .i64) 3 w54 w.heap.size (fun k_ => some k_ ≠ (v217 : Value).ownBlock ∧ some k_ ≠ (v223 : Value).ownBlock) v226 y225) := ⟨h2_⟩
          have n3_ : Aside0 (w54.heap[gb198]? = some (.cells #[.int .i64 a0_0, .slice (some ad200) l0_1.length c0_1, .slice A0_2 l0_2.length c0_2] 24 (0, 0))) := ⟨h3_⟩
          have n4_ : Aside0 (w54.heap[gb199]? = some (.cells #[.int .i64 0, .slice none 0 0, .slice none 0 0] 24 (0, 0))) := ⟨h4_⟩
          have n5_ : Aside0 (Below w.heap.size w w54) := ⟨h5_⟩
          clear BK198
          clear BK199
          clear HB
          clear h0_ h1_ h2_ h3_ h4_ h5_
          have HO218 := n0_
          have HO224 := n1_
          have HO227 := n2_
          have BK198 := n3_
          have BK199 := n4_
          have HB := n5_
          clear n0_ n1_ n2_ n3_ n4_ n5_
          have hHeld : w54.cell? ⟨gb198, 0, none⟩ = some (.int .i64 a0_0) ∧ w54.cell? ⟨gb198, 1, none⟩ = some (.slice (some ad200) l0_1.length c0_1) ∧ w54.cell? ⟨gb198, 2, none⟩ = some (.slice A0_2 l0_2.length c0_2) := hS_
          obtain ⟨Ao56, co56, eo56⟩ := Kd.R_slice HO227.out
          (first | subst eo56 | (injection eo56 with f1_ f2_ f3_; have f4_ := f1_.symm; have f5_ := f3_.symm; clear f1_ f2_ f3_; subst f4_; subst f5_))
          refine norm_ (a' := ?_) ?_ ?_
          rotate_left
          · simp only [putAll, Act.put, List.setIfInBounds_toArray, List.set_cons_zero, List.set_cons_succ]
            rfl
          refine one_ (i := 12) (N := some 52) #[true, true, true, true, true, true, true, true, true, true, true, true, true, false, true, false, false, false] rfl rfl (one_of HT_.out (by kernel_rfl)) (by decide) (fun K hK => ?_)
          refine Kd.R_append_rows_step (Kd.int .i64) (w0 := w) w.heap.size (by rfl) (.tmp 49) (.tmp 51) 22 3 (.int .i64 0) 8 rfl Try.underlying22 info3 rfl (by decide) (by omega) v223 y222 y225 _ _ _ (fun k_ => some k_ ≠ (v217 : Value).ownBlock ∧ some k_ ≠ (.slice Ao56 y225.length co56 : Value).ownBlock) (fun _ => False) rfl rfl ?aO ?aR (fun _ _ h => h) (fun _ h => h.elim) ?aF ?aB ?aS ?aL ?_
          (case aR => exact pC (Kd.R_reads' HO227.out).2.2)
          (case aB => exact (by exact pB HB.out))
          (case aF => exact (fun k_ hk => ⟨Kd.fresh' (Kd.R_lt (by exact pR HO218.out)) k_ hk, Kd.fresh' (Kd.R_lt (by exact pR HO227.out)) k_ hk⟩))
          (case aO => exact (by exact pR HO224.out))
          (case aS => exact (below_size (by exact pB HB.out)))
          (case aL => have := LMc44.out; omega)
          intro v229 w55 ho hb hg hat
          rw [← Ny228.out] at ho
          have n0_ := Aside0.mk (blk_grown (g := gb198) (o := .cells #[.int .i64 a0_0, .slice (some ad200) l0_1.length c0_1, .slice A0_2 l0_2.length c0_2] 24 (0, 0)) (by exact pK BK198.out) hg (Kd.R_ne HO224.out BK198.out (by decide)))
          have n1_ := Aside0.mk (blk_grown (g := gb199) (o := .cells #[.int .i64 0, .slice none 0 0, .slice none 0 0] 24 (0, 0)) (by exact pK BK199.out) hg (Kd.R_ne HO224.out BK199.out (by decide)))
          have n2_ := Aside0.mk (Kd.R_after (ok := (fun k_ => some k_ ≠ (.slice Ao56 y225.length co56 : Value).ownBlock)) (by exact pR (Kd.R_mono HO218.out (fun _ hk => ⟨hk.2, hk.1⟩))) hg hat)
          have n3_ := Aside0.mk (Kd.R_after (ok := (fun k_ => some k_ ≠ (v217 : Value).ownBlock)) (by exact pR HO227.out) hg hat)
          have n4_ := Aside0.mk (hb)
          have n5_ := Aside0.mk (ho)
          clear BK198
          clear BK199
          clear HO218
          clear HO227
          clear HB
          clear HO224
          have BK198 := n0_
          have BK199 := n1_
          have HO218 := n2_
          have HO227 := n3_
          have HB := n4_
          have HO230 := n5_
          clear n0_ n1_ n2_ n3_ n4_ n5_
          clear ho hb hg hat
          obtain ⟨Ao57, co57, eo57⟩ := Kd.R_slice HO230.out
          (first | subst eo57 | (injection eo57 with f1_ f2_ f3_; have f4_ := f1_.symm; have f5_ := f3_.symm; clear f1_ f2_ f3_; subst f4_; subst f5_))
          obtain ⟨Ao58, co58, eo58⟩ := Kd.R_slice HO218.out
          (first | subst eo58 | (injection eo58 with f1_ f2_ f3_; have f4_ := f1_.symm; have f5_ := f3_.symm; clear f1_ f2_ f3_; subst f4_; subst f5_))
          refine hK.out _ _ ⟨(blk_cell BK198.out 0).trans rfl, (blk_cell BK198.out 1).trans rfl, (blk_cell BK198.out 2).trans rfl⟩ (fun hHeld => ?_)
          clear hK K
          refine norm_ (a' := ?_) ?_ ?_
          rotate_left
          · show Act.put _ (some 52) _ = _
            simp only [Act.put, List.setIfInBounds_toArray, List.set_cons_zero, List.set_cons_succ, i64_w, i32_w]
            rfl
          refine pure_ (i := 13) (N := some 53) (v := ?_) (a' := ?_) #[true, true, true, true, true, true, true, true, true, true, true, true, true, true, true, false, false, false] rfl rfl (any_of HT_.out (by kernel_rfl)) (fun _ _ _ h => h) (Or.inl ⟨by rfl, ?_⟩) ?_ ?_
          rotate_left
          · intro w'
            go_simp
            with_reducible rfl
          rotate_left
          · simp only [Act.put, List.setIfInBounds_toArray, List.set_cons_zero, List.set_cons_succ, i64_w, i32_w]
            rfl
          refine one_ (i := 15) (N := none) #[true, true, true, true, true, true, true, true, true, true, true, true, true, true, true, true, false, false] rfl rfl (one_of HT_.out (by kernel_rfl)) (by decide) (fun K hK => ?_)
          have hs59 : w55.cell? ⟨gb199, 0, none⟩ = some (.int .i64 0) := (blk_cell BK199.out 0).trans rfl
          have hfs59 := blk_frozen BK199.out 0
          have hns59_0 := NB198_199.out
          have hms59_0 := NB199_198.out
          have hs60 : w55.cell? ⟨gb199, 1, none⟩ = some (.slice none 0 0) := (blk_cell BK199.out 1).trans rfl
          have hfs60 := blk_frozen BK199.out 1
          have hns60_0 := NB198_199.out
          have hms60_0 := NB199_198.out
          have hs61 : w55.cell? ⟨gb199, 2, none⟩ = some (.slice none 0 0) := (blk_cell BK199.out 2).trans rfl
          have hfs61 := blk_frozen BK199.out 2
          have hns61_0 := NB198_199.out
          have hms61_0 := NB199_198.out
          refine skip_ (w1 := ?_) (by rfl) rfl ?_ ?_
          rotate_left
          · go_simp
            rfl
          refine hK.out _ _ ⟨((cell_far (p := ⟨gb199, _, none⟩) NB198_199.out _).trans (((cell_far (p := ⟨gb199, _, none⟩) NB198_199.out _).trans (((cell_far (p := ⟨gb199, _, none⟩) NB198_199.out _).trans (hHeld.1)))))), ((cell_far (p := ⟨gb199, _, none⟩) NB198_199.out _).trans (((cell_far (p := ⟨gb199, _, none⟩) NB198_199.out _).trans (((cell_far (p := ⟨gb199, _, none⟩) NB198_199.out _).trans (hHeld.2.1)))))), ((cell_far (p := ⟨gb199, _, none⟩) NB198_199.out _).trans (((cell_far (p := ⟨gb199, _, none⟩) NB198_199.out _).trans (((cell_far (p := ⟨gb199, _, none⟩) NB198_199.out _).trans (hHeld.2.2))))))⟩ (fun hHeld => ?_)
          clear hK K
          refine pure_ (i := 16) (N := some 7) (v := ?_) (a' := ?_) #[true, true, true, true, true, true, true, true, true, true, true, true, true, true, true, true, true, false] rfl rfl (any_of HT_.out (by kernel_rfl)) (fun _ _ _ h => h) (Or.inl ⟨by rfl, ?_⟩) ?_ ?_
          rotate_left
          · intro w'
            go_simp
            with_reducible rfl
          rotate_left
          · simp only [Act.put, List.setIfInBounds_toArray, List.set_cons_zero, List.set_cons_succ, i64_w, i32_w]
            rfl
          refine pure_ (i := 17) (N := some 8) (v := ?_) (a' := ?_) #[true, true, true, true, true, true, true, true, true, true, true, true, true, true, true, true, true, true] rfl rfl (any_of HT_.out (by kernel_rfl)) (fun _ _ _ h => h) (Or.inl ⟨by rfl, ?_⟩) ?_ ?_
          rotate_left
          · intro w'
            go_simp
            with_reducible rfl
          rotate_left
          · simp only [Act.put, List.setIfInBounds_toArray, List.set_cons_zero, List.set_cons_succ, i64_w, i32_w]
            rfl
          refine done_ (done_of HT_.out (by kernel_rfl)) ?_
          try go_wp2
          refine bodyPost_ret (results_ctt rfl _ _ gb199 24 #[.int .i64 a0_0, .slice Ao58 t216.length co58, .slice Ao57 y228.length co57] (0, 0) _ rfl (by (with_reducible repeat (first | refine blk_drewN ?_ _ | refine blk_drew ?_ | refine blk_alloc ?_ _)); refine blk_put (cs := #[.int .i64 a0_0, .slice Ao58 t216.length co58, .slice none 0 0]) ?_ 2 _ rfl; (with_reducible repeat (first | refine blk_drewN ?_ _ | refine blk_drew ?_ | refine blk_alloc ?_ _)); refine blk_put (cs := #[.int .i64 a0_0, .slice none 0 0, .slice none 0 0]) ?_ 1 _ rfl; (with_reducible repeat (first | refine blk_drewN ?_ _ | refine blk_drew ?_ | refine blk_alloc ?_ _)); refine blk_put (cs := #[.int .i64 0, .slice none 0 0, .slice none 0 0]) ?_ 0 _ rfl; (with_reducible repeat (first | refine blk_drewN ?_ _ | refine blk_drew ?_ | refine blk_alloc ?_ _)); exact BK199.out) Try.underlying24 rfl (by kernel_rfl)) rfl ?_
          exact ⟨_, _, by first | rfl | (simp [errW_none, errW_some] <;> rfl) | (simp [*, errW_none, errW_some] <;> rfl), by (with_reducible repeat (first | apply Kd.R_alloc | apply Kd.R_drewN | apply Kd.R_drew)); exact Kd.R_mono (Kd.R_far (p := ⟨gb199, 2, none⟩) (Kd.R_far (p := ⟨gb199, 1, none⟩) (Kd.R_far (p := ⟨gb199, 0, none⟩) (Kd.R_types HO218.out BK199.out (by decide)) (fun _ hk => hk.2) (.int .i64 a0_0)) (fun _ hk => hk.2) (.slice Ao58 t216.length co58)) (fun _ hk => hk.2) (.slice Ao57 y228.length co57)) (fun _ hk => hk.1.2), by (with_reducible repeat (first | apply Kd.R_alloc | apply Kd.R_drewN | apply Kd.R_drew)); exact Kd.R_mono (Kd.R_far (p := ⟨gb199, 2, none⟩) (Kd.R_far (p := ⟨gb199, 1, none⟩) (Kd.R_far (p := ⟨gb199, 0, none⟩) (Kd.R_types HO230.out BK199.out (by decide)) (fun _ hk => hk.2) (.int .i64 a0_0)) (fun _ hk => hk.2) (.slice Ao58 t216.length co58)) (fun _ hk => hk.2) (.slice Ao57 y228.length co57)) (fun _ hk => hk.1.1), by repeat (first | (with_reducible first | exact HB.out | apply below_alloc | apply pw_below_drewN | apply below_drew1 | refine below_set ?_ GE198.out | refine below_set ?_ GE199.out) | exact HB.out)⟩

end Go.Proofs.Ytlhmgigjbeefbaa.PChannelSteps
