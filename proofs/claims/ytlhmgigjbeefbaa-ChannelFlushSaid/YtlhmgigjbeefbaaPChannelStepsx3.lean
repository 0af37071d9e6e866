-- Printed by a patched copy of the kit's printer (wip/prt); nothing here is trusted, Lean checks it.
import Derived.Test.YtlhmgigjbeefbaaPChannelStepsx0
namespace Go.Proofs.Ytlhmgigjbeefbaa.PChannelSteps
open Go.RowKit Go.Proofs.YtlhmgigjbeefbaaW.PrintWords Go.Proofs.YtlhmgigjbeefbaaW.PrintLast Go.Proofs.YtlhmgigjbeefbaaW.PrintMore
attribute [local go_sem] max2_int min2_int max_two min_two max_three min_three max_four min_four   -- for this text's walks alone
set_option linter.unusedVariables false
set_option linter.unusedSimpArgs false

/-! ### customsref33_Transmit: function 14 -/
mutual
def customsref33_Transmit.j0 : Nat → Int → Bool → Int → List Int → List Int → Option (Int × List Int × List Int × Int)
  | 0, _, _, _, _, _ => none
  | k + 1, x1, x20, x177000, x177001, x177002 => if x20 = true then (some (0, ([] : List Int), ([] : List Int), 2)) else (if (wrap64 (x1 - x177000)) > (wrap64 (1000 - (x177001.length : Int))) then (some (0, ([] : List Int), ([] : List Int), 8)) else ((some (([] : List Int) : List Int)).bind fun y178 => (if y178.length + x177001.length < 17592186044416 then (customsref33_Transmit.l0 k x1 (y178 ++ x177001) (wrap64 (x177000 + 1)) x177000 x177001 x177002) else (none))))
def customsref33_Transmit.l0 : Nat → Int → List Int → Int → Int → List Int → List Int → Option (Int × List Int × List Int × Int)
  | 0, _, _, _, _, _, _ => none
  | k + 1, x1, x6, x7, x177000, x177001, x177002 => if x7 ≤ x1 then (if x6.length < 17592186044416 then (customsref33_Transmit.l0 k x1 (x6 ++ [x7]) (wrap64 (x7 + 1)) x177000 x177001 x177002) else (none)) else (some (x177000, x6, x177002, 0))
end
def customsref33_Transmit.f (k : Nat) (a0_0 : Int) (l0_1 : List Int) (l0_2 : List Int) (a1 : Int) : Option (Int × List Int × List Int × Int) := if a0_0 < 0 then (customsref33_Transmit.j0 k a1 true a0_0 l0_1 l0_2) else (if a1 < a0_0 then (customsref33_Transmit.j0 k a1 true a0_0 l0_1 l0_2) else (customsref33_Transmit.j0 k a1 (decide (a1 > 1000000)) a0_0 l0_1 l0_2))
theorem customsref33_Transmit.mono_l : ∀ k, (∀ y0 y1 y2 y3 y4, LeO (customsref33_Transmit.j0 k y0 y1 y2 y3 y4) (customsref33_Transmit.j0 (k + 1) y0 y1 y2 y3 y4)) ∧ (∀ y0 y1 y2 y3 y4 y5, LeO (customsref33_Transmit.l0 k y0 y1 y2 y3 y4 y5) (customsref33_Transmit.l0 (k + 1) y0 y1 y2 y3 y4 y5))
  | 0 => ⟨fun _ _ _ _ _ r h => by simp [customsref33_Transmit.j0] at h, fun _ _ _ _ _ _ r h => by simp [customsref33_Transmit.l0] at h⟩
  | k + 1 => by
    obtain ⟨ih0, ih1⟩ := customsref33_Transmit.mono_l k
    refine ⟨?_, ?_⟩
    · intro y0 y1 y2 y3 y4
      unfold customsref33_Transmit.j0
      repeat' first
      | (with_reducible exact ih0 _ _ _ _ _)
      | (with_reducible exact ih1 _ _ _ _ _ _)
      | (with_reducible exact LeO.refl _)
      | (with_reducible exact LeO.none _)
      | (with_reducible refine LeO.ite ?_ ?_)
      | (with_reducible refine LeO.bind ?_ (fun _ => ?_))
      | exact ih0 _ _ _ _ _
      | exact ih1 _ _ _ _ _ _
      | exact LeO.none _
      | refine LeO.ite ?_ ?_
      | refine LeO.bind ?_ (fun _ => ?_)
    · intro y0 y1 y2 y3 y4 y5
      unfold customsref33_Transmit.l0
      repeat' first
      | (with_reducible exact ih0 _ _ _ _ _)
      | (with_reducible exact ih1 _ _ _ _ _ _)
      | (with_reducible exact LeO.refl _)
      | (with_reducible exact LeO.none _)
      | (with_reducible refine LeO.ite ?_ ?_)
      | (with_reducible refine LeO.bind ?_ (fun _ => ?_))
      | exact ih0 _ _ _ _ _
      | exact ih1 _ _ _ _ _ _
      | exact LeO.none _
      | refine LeO.ite ?_ ?_
      | refine LeO.bind ?_ (fun _ => ?_)
theorem customsref33_Transmit.mono : ∀ a0 a1 a2 a3 k, LeO (customsref33_Transmit.f k a0 a1 a2 a3) (customsref33_Transmit.f (k + 1) a0 a1 a2 a3) := by
  intro a0 a1 a2 a3 k
  obtain ⟨ih0, ih1⟩ := customsref33_Transmit.mono_l k
  unfold customsref33_Transmit.f
  repeat' first
      | (with_reducible exact ih0 _ _ _ _ _)
      | (with_reducible exact ih1 _ _ _ _ _ _)
      | (with_reducible exact LeO.refl _)
      | (with_reducible exact LeO.none _)
      | (with_reducible refine LeO.ite ?_ ?_)
      | (with_reducible refine LeO.bind ?_ (fun _ => ?_))
      | exact ih0 _ _ _ _ _
      | exact ih1 _ _ _ _ _ _
      | exact LeO.none _
      | refine LeO.ite ?_ ?_
      | refine LeO.bind ?_ (fun _ => ?_)
set_option maxHeartbeats 8000000 in
set_option maxRecDepth 100000 in
theorem customsref33_Transmit.calls (k : Nat) (a0_0 : Int) (A0_1 : Option Addr) (c0_1 : Nat) (l0_1 : List Int) (P0_2_ : Nat → Prop) (A0_2 : Option Addr) (c0_2 : Nat) (l0_2 : List Int) (a1 : Int) (r1 : Int) (r2 : List Int) (r3 : List Int) (r4 : Int) (w : World) (hr0_1 : Kd.C (Kd.int .i64) w A0_1 l0_1.length l0_1) (hc0_1 : l0_1.length ≤ c0_1) (hs0_2 : Kd.V (Kd.int .i64) 3 w w.heap.size (fun k_ => P0_2_ k_) (.slice A0_2 l0_2.length c0_2) l0_2) (h : customsref33_Transmit.f k a0_0 l0_1 l0_2 a1 = some (r1, r2, r3, r4)) :
    Calls Try.prog 14 #[.agg #[.int .i64 a0_0, .slice A0_1 l0_1.length c0_1, .slice A0_2 l0_2.length c0_2], .int .i64 a1] w fun e w' => ∃ v1_ v2_ : Value, e = .returned (.tuple #[.agg #[.int .i64 r1, v1_, v2_], .int .i64 r4]) ∧ Kd.R (Kd.int .i64) 3 w' w.heap.size (fun k_ => (w.heap.size ≤ k_)) v1_ r2 ∧ Kd.V (Kd.int .i64) 3 w' w.heap.size (fun k_ => (P0_2_ k_ ∨ w.heap.size ≤ k_) ∧ some k_ ≠ (v1_ : Value).ownBlock) v2_ r3 ∧ Below w.heap.size w w' := by
  have hu24 := Try.underlying24
  have HR0_1 := Aside0.mk hr0_1
  have HC0_1 := Aside0.mk hc0_1
  clear hr0_1 hc0_1
  have HO0_2 := Aside0.mk (show Kd.V (Kd.int .i64) 3 w w.heap.size (fun k_ => (P0_2_ k_ ∨ w.heap.size ≤ k_)) (.slice A0_2 l0_2.length c0_2) l0_2 from Kd.V_mono hs0_2 (fun k_ hk => .inl hk))
  have HB := Aside0.mk (Below.refl w.heap.size w)
  have H : (if a0_0 < 0 then (customsref33_Transmit.j0 k a1 true a0_0 l0_1 l0_2) else (if a1 < a0_0 then (customsref33_Transmit.j0 k a1 true a0_0 l0_1 l0_2) else (customsref33_Transmit.j0 k a1 (decide (a1 > 1000000)) a0_0 l0_1 l0_2))) = some (r1, r2, r3, r4) := h
  clear h
  have HC3 := Aside0.mk H
  clear H
  go_enter Try.func14, Try.ntmps14
  go_upto_region 1 with (first | ((with_reducible refine gate_dst (N := 2) rfl ?_); refine box_event ?hg (N := 2) ?hd (cs := #[.int .i64 a0_0, .slice A0_1 l0_1.length c0_1, .slice A0_2 l0_2.length c0_2]) (t := 24) ?hr ?_; (case hd => rfl); (case hg => rfl); (case hr => first | (go_simp; done) | (go_simp; rfl)); intro gb176 hg w4 hbox hb; have n0_ := Aside0.mk (Kd.V_below (Kd.V_elderB (by exact pV HO0_2.out) gb176 (Nat.le_of_eq hg.symm)) hb); have n1_ := Aside0.mk (below_step (by exact pB HB.out) hb); have n2_ := Aside0.mk (hbox); have n3_ := Aside0.mk ((by rw [hg]; exact (below_size (by exact pB HB.out)) : w.heap.size ≤ gb176)); have n4_ := Aside0.mk ((by rw [hg]; exact (below_size (by exact pB HB.out)) : w.heap.size ≤ gb176)); clear HO0_2; clear HB; have HO0_2 := n0_; have HB := n1_; have BK176 := n2_; have GW176 := n3_; have GE176 := n4_; clear n0_ n1_ n2_ n3_ n4_; clear hb hbox hg) | ((with_reducible refine gate_dst (N := 4) rfl ?_); refine box_event ?hg (N := 4) ?hd (cs := #[.int .i64 0, .slice none 0 0, .slice none 0 0]) (t := 24) ?hr ?_; (case hd => rfl); (case hg => rfl); (case hr => first | (go_simp; done) | (go_simp; rfl)); intro gb177 hg w5 hbox hb; have n0_ := Aside0.mk (Kd.V_below (Kd.V_elderB (by exact pV HO0_2.out) gb177 (Nat.le_of_eq hg.symm)) hb); have n1_ := Aside0.mk (blk_below (g := gb176) (o := .cells #[.int .i64 a0_0, .slice A0_1 l0_1.length c0_1, .slice A0_2 l0_2.length c0_2] 24 (0, 0)) (by exact pK BK176.out) hb); have n2_ := Aside0.mk (below_step (by exact pB HB.out) hb); have n3_ := Aside0.mk (hbox); have n4_ := Aside0.mk ((by rw [hg]; exact (below_size (by exact pB HB.out)) : w.heap.size ≤ gb177)); have n5_ := Aside0.mk ((by rw [hg]; exact (below_size (by exact pB HB.out)) : w.heap.size ≤ gb177)); have n6_ := Aside0.mk ((by rw [hg]; exact Nat.ne_of_lt (blk_lt (g := gb176) (o := .cells #[.int .i64 a0_0, .slice A0_1 l0_1.length c0_1, .slice A0_2 l0_2.length c0_2] 24 (0, 0)) (by exact pK BK176.out)) : gb176 ≠ gb177)); have n7_ := Aside0.mk ((by rw [hg]; exact Nat.ne_of_gt (blk_lt (g := gb176) (o := .cells #[.int .i64 a0_0, .slice A0_1 l0_1.length c0_1, .slice A0_2 l0_2.length c0_2] 24 (0, 0)) (by exact pK BK176.out)) : gb177 ≠ gb176)); clear HO0_2; clear BK176; clear HB; have HO0_2 := n0_; have BK176 := n1_; have HB := n2_; have BK177 := n3_; have GW177 := n4_; have GE177 := n5_; have NB176_177 := n6_; have NB177_176 := n7_; clear n0_ n1_ n2_ n3_ n4_ n5_ n6_ n7_; clear hb hbox hg))
  (try simp only [Act.put, List.setIfInBounds_toArray, List.set_cons_zero, List.set_cons_succ])
  go_cut [20] (fun v20 wc => ∃ (kq : Nat) (x20_2 : Bool), v20 = .bool x20_2 ∧ Aside0 (customsref33_Transmit.j0 kq a1 x20_2 a0_0 l0_1 l0_2 = some (r1, r2, r3, r4)) ∧ Aside0 (kq ≤ k) ∧ Aside0 (Kd.V (Kd.int .i64) 3 wc w.heap.size (fun k_ => (P0_2_ k_ ∨ w.heap.size ≤ k_) ∧ k_ ≠ gb176 ∧ k_ ≠ gb177) (.slice A0_2 l0_2.length c0_2) l0_2) ∧ Aside0 (wc.heap[gb176]? = some (.cells #[.int .i64 a0_0, (.slice A0_1 l0_1.length c0_1), (.slice A0_2 l0_2.length c0_2)] 24 (0, 0))) ∧ Aside0 (wc.heap[gb177]? = some (.cells #[.int .i64 0, (.slice none 0 0), (.slice none 0 0)] 24 (0, 0))) ∧ Aside0 (Below w.heap.size w wc))
  case first =>
    have H := HC3.out
    clear HC3
    by_cases c6 : a0_0 < 0
    · rw [if_pos c6] at H
      have c6b0 : decide (a0_0 < 0) = true := decide_eq_true c6
      clear c6
      (first | rw [c6b0] | (simp only [i64_w, i32_w]; rw [c6b0]) | skip)
      have H' := Aside0.mk H
      clear H
      have hnb7 := NB176_177.out
      have hnc7 := NB177_176.out
      have hcz8_0 : w5.cell? ⟨gb176, 0, none⟩ = some (.int .i64 a0_0) := (blk_cell BK176.out 0).trans rfl
      have hcz8_1 : w5.cell? ⟨gb176, 1, none⟩ = some (.slice A0_1 l0_1.length c0_1) := (blk_cell BK176.out 1).trans rfl
      have hcz8_2 : w5.cell? ⟨gb176, 2, none⟩ = some (.slice A0_2 l0_2.length c0_2) := (blk_cell BK176.out 2).trans rfl
      have hfz8_0 := blk_frozen BK176.out 0
      have hfz8_1 := blk_frozen BK176.out 1
      have hfz8_2 := blk_frozen BK176.out 2
      go_wp2
      go_meet
      case rel => exact ⟨_, (true), (by first | rfl | (simp; done) | (simp [*]; done)), H', ⟨by first | omega | exact Nat.le_refl _⟩, ⟨by exact pV (Kd.V_mono HO0_2.out (fun _ hk => ⟨hk.1.1, ⟨hk.1.2, hk.2⟩⟩))⟩, ⟨by exact pK BK176.out⟩, ⟨by exact pK BK177.out⟩, ⟨by exact pB HB.out⟩⟩
    · rw [if_neg c6] at H
      have c6b0 : decide (a0_0 < 0) = false := decide_eq_false c6
      clear c6
      (first | rw [c6b0] | (simp only [i64_w, i32_w]; rw [c6b0]) | skip)
      by_cases c9 : a1 < a0_0
      · rw [if_pos c9] at H
        have c9b0 : decide (a1 < a0_0) = true := decide_eq_true c9
        clear c9
        have H' := Aside0.mk H
        clear H
        have hnb10 := NB176_177.out
        have hnc10 := NB177_176.out
        have hcz11_0 : w5.cell? ⟨gb176, 0, none⟩ = some (.int .i64 a0_0) := (blk_cell BK176.out 0).trans rfl
        have hcz11_1 : w5.cell? ⟨gb176, 1, none⟩ = some (.slice A0_1 l0_1.length c0_1) := (blk_cell BK176.out 1).trans rfl
        have hcz11_2 : w5.cell? ⟨gb176, 2, none⟩ = some (.slice A0_2 l0_2.length c0_2) := (blk_cell BK176.out 2).trans rfl
        have hfz11_0 := blk_frozen BK176.out 0
        have hfz11_1 := blk_frozen BK176.out 1
        have hfz11_2 := blk_frozen BK176.out 2
        go_wp2
        go_meet
        case rel => exact ⟨_, (true), (by first | rfl | (simp; done) | (simp [*]; done)), H', ⟨by first | omega | exact Nat.le_refl _⟩, ⟨by exact pV (Kd.V_mono HO0_2.out (fun _ hk => ⟨hk.1.1, ⟨hk.1.2, hk.2⟩⟩))⟩, ⟨by exact pK BK176.out⟩, ⟨by exact pK BK177.out⟩, ⟨by exact pB HB.out⟩⟩
      · rw [if_neg c9] at H
        have c9b0 : decide (a1 < a0_0) = false := decide_eq_false c9
        clear c9
        have H' := Aside0.mk H
        clear H
        have hnb12 := NB176_177.out
        have hnc12 := NB177_176.out
        have hcz13_0 : w5.cell? ⟨gb176, 0, none⟩ = some (.int .i64 a0_0) := (blk_cell BK176.out 0).trans rfl
        have hcz13_1 : w5.cell? ⟨gb176, 1, none⟩ = some (.slice A0_1 l0_1.length c0_1) := (blk_cell BK176.out 1).trans rfl
        have hcz13_2 : w5.cell? ⟨gb176, 2, none⟩ = some (.slice A0_2 l0_2.length c0_2) := (blk_cell BK176.out 2).trans rfl
        have hfz13_0 := blk_frozen BK176.out 0
        have hfz13_1 := blk_frozen BK176.out 1
        have hfz13_2 := blk_frozen BK176.out 2
        go_wp2
        go_meet
        case rel => exact ⟨_, (decide (a1 > 1000000)), (by first | rfl | (simp; done) | (simp [*]; done)), H', ⟨by first | omega | exact Nat.le_refl _⟩, ⟨by exact pV (Kd.V_mono HO0_2.out (fun _ hk => ⟨hk.1.1, ⟨hk.1.2, hk.2⟩⟩))⟩, ⟨by exact pK BK176.out⟩, ⟨by exact pK BK177.out⟩, ⟨by exact pB HB.out⟩⟩
  case rest =>
    clear HC3
    try clear c1
    try clear p2
    try clear c6
    try clear c6b0
    try clear c7
    try clear c9
    try clear c9b0
    try clear c10
    try clear c12
    try clear hcz11_0
    try clear hcz11_1
    try clear hcz11_2
    try clear hcz13_0
    try clear hcz13_1
    try clear hcz13_2
    try clear hcz8_0
    try clear hcz8_1
    try clear hcz8_2
    try clear hfz11_0
    try clear hfz11_1
    try clear hfz11_2
    try clear hfz13_0
    try clear hfz13_1
    try clear hfz13_2
    try clear hfz8_0
    try clear hfz8_1
    try clear hfz8_2
    obtain ⟨kq, x20_2, rfl, HA, HJ2, HO_177002, BK176, BK177, HB⟩ := hcut
    cases kq with
    | zero => exact absurd HA.out (by simp [customsref33_Transmit.j0])
    | succ kj2 =>
      have H := HA.out
      clear HA
      simp only [customsref33_Transmit.j0] at H
      by_cases c14 : x20_2 = true
      · subst c14
        have H1 : (some (0, ([] : List Int), ([] : List Int), 2)) = some (r1, r2, r3, r4) := by rw [if_pos rfl] at H; exact H
        clear H
        have H := H1
        clear H1
        simp only [Option.some.injEq, Prod.mk.injEq] at H
        obtain ⟨rfl, rfl, rfl, rfl⟩ := H
        have hnb15 := NB177_176.out
        have hnc15 := NB176_177.out
        have hcz16_0 : wc.cell? ⟨gb177, 0, none⟩ = some (.int .i64 0) := (blk_cell BK177.out 0).trans rfl
        have hcz16_1 : wc.cell? ⟨gb177, 1, none⟩ = some (.slice none 0 0) := (blk_cell BK177.out 1).trans rfl
        have hcz16_2 : wc.cell? ⟨gb177, 2, none⟩ = some (.slice none 0 0) := (blk_cell BK177.out 2).trans rfl
        have hfz16_0 := blk_frozen BK177.out 0
        have hfz16_1 := blk_frozen BK177.out 1
        have hfz16_2 := blk_frozen BK177.out 2
        go_wp2
        refine bodyPost_ret (results_ct rfl _ _ gb177 24 #[.int .i64 0, .slice none 0 0, .slice none 0 0] (0, 0) _ rfl (by (with_reducible repeat (first | refine blk_drewN ?_ _ | refine blk_drew ?_ | refine blk_alloc ?_ _)); refine blk_put (cs := #[.int .i64 0, .slice none 0 0, .slice none 0 0]) ?_ 2 _ rfl; (with_reducible repeat (first | refine blk_drewN ?_ _ | refine blk_drew ?_ | refine blk_alloc ?_ _)); refine blk_put (cs := #[.int .i64 0, .slice none 0 0, .slice none 0 0]) ?_ 1 _ rfl; (with_reducible repeat (first | refine blk_drewN ?_ _ | refine blk_drew ?_ | refine blk_alloc ?_ _)); refine blk_put (cs := #[.int .i64 0, .slice none 0 0, .slice none 0 0]) ?_ 0 _ rfl; (with_reducible repeat (first | refine blk_drewN ?_ _ | refine blk_drew ?_ | refine blk_alloc ?_ _)); exact BK177.out) Try.underlying24 rfl (by kernel_rfl)) rfl ?_
        exact ⟨_, _, by first | rfl | (simp [errW_none, errW_some] <;> rfl) | (simp [*, errW_none, errW_some] <;> rfl), by first | exact Kd.R_nil _ _ _ _ _ | exact Kd.N_nil _ _ _ _ _ | exact Kd.V_nil _ _ _ _ _ | exact Kd.Q_nil _ _ _ _ _ | exact Kd.S_nil _ _ _ _ _, by first | exact Kd.R_nil _ _ _ _ _ | exact Kd.N_nil _ _ _ _ _ | exact Kd.V_nil _ _ _ _ _ | exact Kd.Q_nil _ _ _ _ _ | exact Kd.S_nil _ _ _ _ _, by repeat (first | (with_reducible first | exact HB.out | apply below_alloc | apply pw_below_drewN | apply below_drew1 | refine below_set ?_ GE176.out | refine below_set ?_ GE177.out) | exact HB.out)⟩
      · replace c14 := Bool.eq_false_iff.mpr c14
        subst c14
        have H1 : (if (wrap64 (a1 - a0_0)) > (wrap64 (1000 - (l0_1.length : Int))) then (some (0, ([] : List Int), ([] : List Int), 8)) else ((some (([] : List Int) : List Int)).bind fun y178 => (if y178.length + l0_1.length < 17592186044416 then (customsref33_Transmit.l0 kj2 a1 (y178 ++ l0_1) (wrap64 (a0_0 + 1)) a0_0 l0_1 l0_2) else (none)))) = some (r1, r2, r3, r4) := by rw [if_neg (show ¬ (false = true) by decide)] at H; exact H
        clear H
        have H := H1
        clear H1
        by_cases c17 : (wrap64 (a1 - a0_0)) > (wrap64 (1000 - (l0_1.length : Int)))
        · rw [if_pos c17] at H
          have c17b0 : decide ((wrap64 (1000 - (l0_1.length : Int))) < (wrap64 (a1 - a0_0))) = true := decide_eq_true c17
          clear c17
          simp only [Option.some.injEq, Prod.mk.injEq] at H
          obtain ⟨rfl, rfl, rfl, rfl⟩ := H
          have hnb18 := NB176_177.out
          have hnc18 := NB177_176.out
          have hcz19_0 : wc.cell? ⟨gb176, 0, none⟩ = some (.int .i64 a0_0) := (blk_cell BK176.out 0).trans rfl
          have hcz19_1 : wc.cell? ⟨gb176, 1, none⟩ = some (.slice A0_1 l0_1.length c0_1) := (blk_cell BK176.out 1).trans rfl
          have hcz19_2 : wc.cell? ⟨gb176, 2, none⟩ = some (.slice A0_2 l0_2.length c0_2) := (blk_cell BK176.out 2).trans rfl
          have hfz19_0 := blk_frozen BK176.out 0
          have hfz19_1 := blk_frozen BK176.out 1
          have hfz19_2 := blk_frozen BK176.out 2
          have hcz20_0 : wc.cell? ⟨gb177, 0, none⟩ = some (.int .i64 0) := (blk_cell BK177.out 0).trans rfl
          have hcz20_1 : wc.cell? ⟨gb177, 1, none⟩ = some (.slice none 0 0) := (blk_cell BK177.out 1).trans rfl
          have hcz20_2 : wc.cell? ⟨gb177, 2, none⟩ = some (.slice none 0 0) := (blk_cell BK177.out 2).trans rfl
          have hfz20_0 := blk_frozen BK177.out 0
          have hfz20_1 := blk_frozen BK177.out 1
          have hfz20_2 := blk_frozen BK177.out 2
          go_wp2
          refine bodyPost_ret (results_ct rfl _ _ gb177 24 #[.int .i64 0, .slice none 0 0, .slice none 0 0] (0, 0) _ rfl (by (with_reducible repeat (first | refine blk_drewN ?_ _ | refine blk_drew ?_ | refine blk_alloc ?_ _)); refine blk_put (cs := #[.int .i64 0, .slice none 0 0, .slice none 0 0]) ?_ 2 _ rfl; (with_reducible repeat (first | refine blk_drewN ?_ _ | refine blk_drew ?_ | refine blk_alloc ?_ _)); refine blk_put (cs := #[.int .i64 0, .slice none 0 0, .slice none 0 0]) ?_ 1 _ rfl; (with_reducible repeat (first | refine blk_drewN ?_ _ | refine blk_drew ?_ | refine blk_alloc ?_ _)); refine blk_put (cs := #[.int .i64 0, .slice none 0 0, .slice none 0 0]) ?_ 0 _ rfl; (with_reducible repeat (first | refine blk_drewN ?_ _ | refine blk_drew ?_ | refine blk_alloc ?_ _)); exact BK177.out) Try.underlying24 rfl (by kernel_rfl)) rfl ?_
          exact ⟨_, _, by first | rfl | (simp [errW_none, errW_some] <;> rfl) | (simp [*, errW_none, errW_some] <;> rfl), by first | exact Kd.R_nil _ _ _ _ _ | exact Kd.N_nil _ _ _ _ _ | exact Kd.V_nil _ _ _ _ _ | exact Kd.Q_nil _ _ _ _ _ | exact Kd.S_nil _ _ _ _ _, by first | exact Kd.R_nil _ _ _ _ _ | exact Kd.N_nil _ _ _ _ _ | exact Kd.V_nil _ _ _ _ _ | exact Kd.Q_nil _ _ _ _ _ | exact Kd.S_nil _ _ _ _ _, by repeat (first | (with_reducible first | exact HB.out | apply below_alloc | apply pw_below_drewN | apply below_drew1 | refine below_set ?_ GE176.out | refine below_set ?_ GE177.out) | exact HB.out)⟩
        · rw [if_neg c17] at H
          have c17b0 : decide ((wrap64 (1000 - (l0_1.length : Int))) < (wrap64 (a1 - a0_0))) = false := decide_eq_false c17
          clear c17
          obtain ⟨y178, hy178⟩ : ∃ y_ : List Int, y_ = (([] : List Int)) := ⟨_, rfl⟩
          replace H : (if y178.length + l0_1.length < 17592186044416 then (customsref33_Transmit.l0 kj2 a1 (y178 ++ l0_1) (wrap64 (a0_0 + 1)) a0_0 l0_1 l0_2) else (none)) = some (r1, r2, r3, r4) := by first | (rw [hy178]; with_reducible exact H) | (have H2_ := (Option.bind_some _ _).symm.trans H; rw [hy178]; with_reducible exact H2_) | (have H2_ := (Option.bind_some _ _).symm.trans H; with_reducible exact H2_) | with_reducible exact H | (rw [hy178]; exact H) | exact H
          have Ny178 := Aside0.mk hy178
          clear hy178
          have c21 : y178.length + l0_1.length < 17592186044416 := by
            refine Classical.byContradiction fun c21 => ?_
            rw [if_neg c21] at H
            exact absurd H (by simp)
          rw [if_pos c21] at H
          have LMc21 := Aside0.mk c21
          clear c21
          obtain ⟨y181, hy181⟩ : ∃ y_ : List Int, y_ = (y178 ++ l0_1) := ⟨_, rfl⟩
          replace H : (customsref33_Transmit.l0 kj2 a1 y181 (wrap64 (a0_0 + 1)) a0_0 l0_1 l0_2) = some (r1, r2, r3, r4) := by first | (rw [hy181]; with_reducible exact H) | (have H2_ := (Option.bind_some _ _).symm.trans H; rw [hy181]; with_reducible exact H2_) | (have H2_ := (Option.bind_some _ _).symm.trans H; with_reducible exact H2_) | with_reducible exact H | (rw [hy181]; exact H) | exact H
          have Ny181 := Aside0.mk hy181
          clear hy181
          have H' := Aside0.mk H
          clear H
          have hnb22 := NB176_177.out
          have hnc22 := NB177_176.out
          have hcz23_0 : wc.cell? ⟨gb176, 0, none⟩ = some (.int .i64 a0_0) := (blk_cell BK176.out 0).trans rfl
          have hcz23_1 : wc.cell? ⟨gb176, 1, none⟩ = some (.slice A0_1 l0_1.length c0_1) := (blk_cell BK176.out 1).trans rfl
          have hcz23_2 : wc.cell? ⟨gb176, 2, none⟩ = some (.slice A0_2 l0_2.length c0_2) := (blk_cell BK176.out 2).trans rfl
          have hfz23_0 := blk_frozen BK176.out 0
          have hfz23_1 := blk_frozen BK176.out 1
          have hfz23_2 := blk_frozen BK176.out 2
          go_wp2_with (first | ((with_reducible refine gate_dst (N := 32) rfl ?_); refine Kd.R_lit (Kd.int .i64) _ 3 ?hg (N := 32) ?hd (xs := ([] : List Int)) (inner := []) (ok := fun _ => True) (okp := fun _ => True) ?hr ?hp (fun _ hk => hk) trivial (Below.refl _ _) (Nat.le_refl _) (by simp) ?_; (case hd => rfl); (case hg => rfl); (case hr => first | (go_simp; done) | (go_simp; rfl)); (case hp => exact (Reps.none _ _)); intro v179 w24 ho25 hb hg_ hnew_; clear hg_ hnew_; (first | rw [← Ny178.out] at ho25 | (simp only [Int.reduceToNat] at ho25; rw [← Ny178.out] at ho25)); have n0_ := Aside0.mk (Kd.V_elder' (by exact pV HO_177002.out) (Kd.R_base ho25) hb); have n1_ := Aside0.mk (Kd.R_lower (Kd.R_newM (M := fun k_ => (w.heap.size ≤ k_)) ho25 (below_size (by exact pB HB.out)) (fun k_ h_ => h_)) (below_size (by exact pB HB.out))); have n2_ := Aside0.mk (blk_below (g := gb176) (o := .cells #[.int .i64 a0_0, .slice A0_1 l0_1.length c0_1, .slice A0_2 l0_2.length c0_2] 24 (0, 0)) (by exact pK BK176.out) hb); have n3_ := Aside0.mk (blk_below (g := gb177) (o := .cells #[.int .i64 0, .slice none 0 0, .slice none 0 0] 24 (0, 0)) (by exact pK BK177.out) hb); have n4_ := Aside0.mk (below_step (by exact pB HB.out) hb); clear HO_177002; clear BK176; clear BK177; clear HB; have HO_177002 := n0_; have HO180 := n1_; have BK176 := n2_; have BK177 := n3_; have HB := n4_; clear n0_ n1_ n2_ n3_ n4_; clear hb ho25; have hcz26_0 : w24.cell? ⟨gb176, 0, none⟩ = some (.int .i64 a0_0) := (blk_cell BK176.out 0).trans rfl; have hcz26_1 : w24.cell? ⟨gb176, 1, none⟩ = some (.slice A0_1 l0_1.length c0_1) := (blk_cell BK176.out 1).trans rfl; have hcz26_2 : w24.cell? ⟨gb176, 2, none⟩ = some (.slice A0_2 l0_2.length c0_2) := (blk_cell BK176.out 2).trans rfl; have hfz26_0 := blk_frozen BK176.out 0; have hfz26_1 := blk_frozen BK176.out 1; have hfz26_2 := blk_frozen BK176.out 2) | ((with_reducible refine gate_builtin (b := .append) (xs := #[.tmp 32, .tmp 34]) rfl ?_); at_builtin; refine Kd.R_append_rows (Kd.int .i64) (w0 := w) w.heap.size rfl (.tmp 32) (.tmp 34) 22 3 (.int .i64 0) 8 rfl Try.underlying22 info3 rfl (by decide) (by omega) v179 y178 l0_1 _ _ _ (fun k_ => (w.heap.size ≤ k_)) (fun _ => False) rfl rfl ?aO ?aR (fun _ _ h => h) (fun _ h => h.elim) ?aF ?aB ?aS ?aL ?_; (case aR => exact pC (Kd.C_below HR0_1.out HB.out)); (case aB => exact (by exact pB HB.out)); (case aF => exact (fun k_ hk => (Nat.le_trans (below_size (by exact pB HB.out)) hk))); (case aO => exact (by exact pR (Kd.R_mono HO180.out (fun _ hk => hk.1)))); (case aS => exact (below_size (by exact pB HB.out))); (case aL => have := LMc21.out; omega); intro v182 w27 ho hb hg hat; rw [← Ny181.out] at ho; have n0_ := Aside0.mk (Kd.V_afterv (ok := (fun k_ => (P0_2_ k_ ∨ w.heap.size ≤ k_) ∧ k_ ≠ gb176 ∧ k_ ≠ gb177)) (by exact pV HO_177002.out) hg hat); have n1_ := Aside0.mk (blk_grown (g := gb176) (o := .cells #[.int .i64 a0_0, .slice A0_1 l0_1.length c0_1, .slice A0_2 l0_2.length c0_2] 24 (0, 0)) (by exact pK BK176.out) hg (Kd.R_ne HO180.out BK176.out (by decide))); have n2_ := Aside0.mk (blk_grown (g := gb177) (o := .cells #[.int .i64 0, .slice none 0 0, .slice none 0 0] 24 (0, 0)) (by exact pK BK177.out) hg (Kd.R_ne HO180.out BK177.out (by decide))); have n3_ := Aside0.mk (hb); have n4_ := Aside0.mk (ho); clear HO_177002; clear BK176; clear BK177; clear HB; clear HO180; have HO_177002 := n0_; have BK176 := n1_; have BK177 := n2_; have HB := n3_; have HO183 := n4_; clear n0_ n1_ n2_ n3_ n4_; clear ho hb hg hat; have hcz28_0 : w27.cell? ⟨gb176, 0, none⟩ = some (.int .i64 a0_0) := (blk_cell BK176.out 0).trans rfl; have hcz28_1 : w27.cell? ⟨gb176, 1, none⟩ = some (.slice A0_1 l0_1.length c0_1) := (blk_cell BK176.out 1).trans rfl; have hcz28_2 : w27.cell? ⟨gb176, 2, none⟩ = some (.slice A0_2 l0_2.length c0_2) := (blk_cell BK176.out 2).trans rfl; have hfz28_0 := blk_frozen BK176.out 0; have hfz28_1 := blk_frozen BK176.out 1; have hfz28_2 := blk_frozen BK176.out 2))
          go_loopg [6, 7] kj2 (fun kq v6 v7 w' => ∃ (x6_2 : List Int) (x7_2 : Int), v7 = .int .i64 x7_2 ∧ Aside0 (customsref33_Transmit.l0 kq a1 x6_2 x7_2 a0_0 l0_1 l0_2 = some (r1, r2, r3, r4)) ∧ Aside0 (kq ≤ kj2) ∧ Aside0 (Kd.R (Kd.int .i64) 3 w' w.heap.size (fun k_ => (w.heap.size ≤ k_)) v6 x6_2) ∧ Aside0 (Kd.V (Kd.int .i64) 3 w' w.heap.size (fun k_ => (P0_2_ k_ ∨ w.heap.size ≤ k_) ∧ some k_ ≠ (v6 : Value).ownBlock ∧ k_ ≠ gb176 ∧ k_ ≠ gb177) (.slice A0_2 l0_2.length c0_2) l0_2) ∧ Aside0 (w'.heap[gb176]? = some (.cells #[.int .i64 a0_0, (.slice A0_1 l0_1.length c0_1), (.slice A0_2 l0_2.length c0_2)] 24 (0, 0))) ∧ Aside0 (w'.heap[gb177]? = some (.cells #[.int .i64 0, (.slice none 0 0), (.slice none 0 0)] 24 (0, 0))) ∧ Aside0 (Below w.heap.size w w'))
          case atStart => exact ⟨(y181), (wrap64 (a0_0 + 1)), (by first | rfl | (simp; done) | (simp [*]; done)), H', ⟨Nat.le_refl _⟩, ⟨by exact pR HO183.out⟩, ⟨by exact pV (Kd.V_mono HO_177002.out (fun _ hk => ⟨hk.1.1, ⟨hk.2, ⟨hk.1.2.1, hk.1.2.2⟩⟩⟩))⟩, ⟨by exact pK BK176.out⟩, ⟨by exact pK BK177.out⟩, ⟨by exact pB HB.out⟩⟩
          case round =>
            clear H'
            try clear c1
            try clear c2
            try clear p2
            try clear c6
            try clear c6b0
            try clear p6
            try clear c7
            try clear c9
            try clear c9b0
            try clear c10
            try clear c12
            try clear c14
            try clear c15
            try clear c17
            try clear c17b0
            try clear c18
            try clear c21
            try clear c22
            try clear hcz11_0
            try clear hcz11_1
            try clear hcz11_2
            try clear hcz13_0
            try clear hcz13_1
            try clear hcz13_2
            try clear hcz16_0
            try clear hcz16_1
            try clear hcz16_2
            try clear hcz19_0
            try clear hcz19_1
            try clear hcz19_2
            try clear hcz20_0
            try clear hcz20_1
            try clear hcz20_2
            try clear hcz23_0
            try clear hcz23_1
            try clear hcz23_2
            try clear hcz26_0
            try clear hcz26_1
            try clear hcz26_2
            try clear hcz28_0
            try clear hcz28_1
            try clear hcz28_2
            try clear hcz8_0
            try clear hcz8_1
            try clear hcz8_2
            try clear hfz11_0
            try clear hfz11_1
            try clear hfz11_2
            try clear hfz13_0
            try clear hfz13_1
            try clear hfz13_2
            try clear hfz16_0
            try clear hfz16_1
            try clear hfz16_2
            try clear hfz19_0
            try clear hfz19_1
            try clear hfz19_2
            try clear hfz20_0
            try clear hfz20_1
            try clear hfz20_2
            try clear hfz23_0
            try clear hfz23_1
            try clear hfz23_2
            try clear hfz26_0
            try clear hfz26_1
            try clear hfz26_2
            try clear hfz28_0
            try clear hfz28_1
            try clear hfz28_2
            try clear hfz8_0
            try clear hfz8_1
            try clear hfz8_2
            try clear p2
            obtain ⟨x6_2, x7_2, rfl, HA, HK2, HO_6, HO_177002, BK176, BK177, HB⟩ := hrel
            cases gk with
            | zero => exact absurd HA.out (by simp [customsref33_Transmit.l0])
            | succ k2 =>
              have H := HA.out
              clear HA
              simp only [customsref33_Transmit.l0] at H
              by_cases c29 : x7_2 ≤ a1
              · rw [if_pos c29] at H
                have c29b0 : decide (x7_2 ≤ a1) = true := decide_eq_true c29
                clear c29
                have c30 : x6_2.length < 17592186044416 := by
                  refine Classical.byContradiction fun c30 => ?_
                  rw [if_neg c30] at H
                  exact absurd H (by simp)
                rw [if_pos c30] at H
                have LMc30 := Aside0.mk c30
                clear c30
                obtain ⟨y184, hy184⟩ : ∃ y_ : List Int, y_ = (x6_2 ++ [x7_2]) := ⟨_, rfl⟩
                replace H : (customsref33_Transmit.l0 k2 a1 y184 (wrap64 (x7_2 + 1)) a0_0 l0_1 l0_2) = some (r1, r2, r3, r4) := by first | (rw [hy184]; with_reducible exact H) | (have H2_ := (Option.bind_some _ _).symm.trans H; rw [hy184]; with_reducible exact H2_) | (have H2_ := (Option.bind_some _ _).symm.trans H; with_reducible exact H2_) | with_reducible exact H | (rw [hy184]; exact H) | exact H
                have Ny184 := Aside0.mk hy184
                clear hy184
                have H' := Aside0.mk H
                clear H
                go_wp2_with (first | ((with_reducible refine gate_builtin (b := .append) (xs := #[.tmp 44, .tmp 46]) rfl ?_); at_builtin; refine Kd.R_append (Kd.int .i64) (w0 := w) w.heap.size rfl (.tmp 44) (.tmp 46) 22 3 (.int .i64 0) 8 rfl Try.underlying22 info3 rfl (by decide) (by omega) u6 x6_2 x7_2 [.int .i64 x7_2] (fun k_ => (w.heap.size ≤ k_)) (fun _ => False) rfl rfl ?aP (fun _ hk => hk.elim) ?aF ?aO ?aB ?aS ?aL ?_; (case aP => exact rfl); (case aB => exact (by exact pB HB.out)); (case aF => exact (fun k_ hk => (Nat.le_trans (below_size (by exact pB HB.out)) hk))); (case aO => exact (by exact pR HO_6.out)); (case aS => exact (below_size (by exact pB HB.out))); (case aL => have := LMc30.out; omega); intro v185 w31 ho hb hg hat; rw [← Ny184.out] at ho; have n0_ := Aside0.mk (Kd.V_afterv (ok := (fun k_ => (P0_2_ k_ ∨ w.heap.size ≤ k_) ∧ k_ ≠ gb176 ∧ k_ ≠ gb177)) (by exact pV (Kd.V_mono HO_177002.out (fun _ hk => ⟨⟨hk.1, ⟨hk.2.2.1, hk.2.2.2⟩⟩, hk.2.1⟩))) hg hat); have n1_ := Aside0.mk (blk_grown (g := gb176) (o := .cells #[.int .i64 a0_0, .slice A0_1 l0_1.length c0_1, .slice A0_2 l0_2.length c0_2] 24 (0, 0)) (by exact pK BK176.out) hg (Kd.R_ne HO_6.out BK176.out (by decide))); have n2_ := Aside0.mk (blk_grown (g := gb177) (o := .cells #[.int .i64 0, .slice none 0 0, .slice none 0 0] 24 (0, 0)) (by exact pK BK177.out) hg (Kd.R_ne HO_6.out BK177.out (by decide))); have n3_ := Aside0.mk (hb); have n4_ := Aside0.mk (ho); clear HO_177002; clear BK176; clear BK177; clear HB; clear HO_6; have HO_177002 := n0_; have BK176 := n1_; have BK177 := n2_; have HB := n3_; have HO186 := n4_; clear n0_ n1_ n2_ n3_ n4_; clear ho hb hg hat))
                go_roundg k2
                case measure => have := HJ2.out; have := HK2.out; omega
                case rel => exact ⟨(y184), (wrap64 (x7_2 + 1)), (by first | rfl | (simp; done) | (simp [*]; done)), H', ⟨by have := HJ2.out; have := HK2.out; omega⟩, ⟨by exact pR HO186.out⟩, ⟨by exact pV (Kd.V_mono HO_177002.out (fun _ hk => ⟨hk.1.1, ⟨hk.2, ⟨hk.1.2.1, hk.1.2.2⟩⟩⟩))⟩, ⟨by exact pK BK176.out⟩, ⟨by exact pK BK177.out⟩, ⟨by exact pB HB.out⟩⟩
              · rw [if_neg c29] at H
                have c29b0 : decide (x7_2 ≤ a1) = false := decide_eq_false c29
                clear c29
                simp only [Option.some.injEq, Prod.mk.injEq] at H
                obtain ⟨rfl, rfl, rfl, rfl⟩ := H
                have hnb32 := NB176_177.out
                have hnc32 := NB177_176.out
                have hcz33_0 : wr.cell? ⟨gb176, 0, none⟩ = some (.int .i64 a0_0) := (blk_cell BK176.out 0).trans rfl
                have hcz33_1 : wr.cell? ⟨gb176, 1, none⟩ = some (.slice A0_1 l0_1.length c0_1) := (blk_cell BK176.out 1).trans rfl
                have hcz33_2 : wr.cell? ⟨gb176, 2, none⟩ = some (.slice A0_2 l0_2.length c0_2) := (blk_cell BK176.out 2).trans rfl
                have hfz33_0 := blk_frozen BK176.out 0
                have hfz33_1 := blk_frozen BK176.out 1
                have hfz33_2 := blk_frozen BK176.out 2
                obtain ⟨Ao34, co34, eo34⟩ := Kd.R_slice HO_6.out
                subst eo34
                have hcz35_0 : wr.cell? ⟨gb177, 0, none⟩ = some (.int .i64 0) := (blk_cell BK177.out 0).trans rfl
                have hcz35_1 : wr.cell? ⟨gb177, 1, none⟩ = some (.slice none 0 0) := (blk_cell BK177.out 1).trans rfl
                have hcz35_2 : wr.cell? ⟨gb177, 2, none⟩ = some (.slice none 0 0) := (blk_cell BK177.out 2).trans rfl
                have hfz35_0 := blk_frozen BK177.out 0
                have hfz35_1 := blk_frozen BK177.out 1
                have hfz35_2 := blk_frozen BK177.out 2
                go_wp2
                refine bodyPost_ret (results_ct rfl _ _ gb177 24 #[.int .i64 a0_0, .slice Ao34 x6_2.length co34, .slice A0_2 l0_2.length c0_2] (0, 0) _ rfl (by (with_reducible repeat (first | refine blk_drewN ?_ _ | refine blk_drew ?_ | refine blk_alloc ?_ _)); refine blk_put (cs := #[.int .i64 a0_0, .slice Ao34 x6_2.length co34, .slice none 0 0]) ?_ 2 _ rfl; (with_reducible repeat (first | refine blk_drewN ?_ _ | refine blk_drew ?_ | refine blk_alloc ?_ _)); refine blk_put (cs := #[.int .i64 a0_0, .slice none 0 0, .slice none 0 0]) ?_ 1 _ rfl; (with_reducible repeat (first | refine blk_drewN ?_ _ | refine blk_drew ?_ | refine blk_alloc ?_ _)); refine blk_put (cs := #[.int .i64 0, .slice none 0 0, .slice none 0 0]) ?_ 0 _ rfl; (with_reducible repeat (first | refine blk_drewN ?_ _ | refine blk_drew ?_ | refine blk_alloc ?_ _)); exact BK177.out) Try.underlying24 rfl (by kernel_rfl)) rfl ?_
                exact ⟨_, _, by first | rfl | (simp [errW_none, errW_some] <;> rfl) | (simp [*, errW_none, errW_some] <;> rfl), by (with_reducible repeat (first | apply Kd.R_alloc | apply Kd.R_drewN | apply Kd.R_drew)); exact Kd.R_mono (Kd.R_far (p := ⟨gb177, 2, none⟩) (Kd.R_far (p := ⟨gb177, 1, none⟩) (Kd.R_far (p := ⟨gb177, 0, none⟩) (Kd.R_types HO_6.out BK177.out (by decide)) (fun _ hk => hk.2) (.int .i64 a0_0)) (fun _ hk => hk.2) (.slice Ao34 x6_2.length co34)) (fun _ hk => hk.2) (.slice A0_2 l0_2.length c0_2)) (fun _ hk => hk.1), by (with_reducible repeat (first | apply Kd.V_alloc | apply Kd.V_drewN | apply Kd.V_drew)); exact Kd.V_mono (Kd.V_far (p := ⟨gb177, 2, none⟩) (Kd.V_far (p := ⟨gb177, 1, none⟩) (Kd.V_far (p := ⟨gb177, 0, none⟩) (Kd.V_mono HO_177002.out (fun k_ hk => (⟨hk, hk.2.2.2⟩ : _ ∧ k_ ≠ gb177))) (fun _ hk => hk.2) (.int .i64 a0_0)) (fun _ hk => hk.2) (.slice Ao34 x6_2.length co34)) (fun _ hk => hk.2) (.slice A0_2 l0_2.length c0_2)) (fun _ hk => ⟨hk.1.1, hk.1.2.1⟩), by repeat (first | (with_reducible first | exact HB.out | apply below_alloc | apply pw_below_drewN | apply below_drew1 | refine below_set ?_ GE176.out | refine below_set ?_ GE177.out) | exact HB.out)⟩

/-! ### customsref33_out: function 35 -/
def customsref33_out.f (l0 : List Int) (a1 : Int) : Option (List Int) := (some (([] : List Int) : List Int)).bind fun y187 => (if 0 ≤ a1 then (if a1 ≤ (l0.length : Int) then (if y187.length + (l0.take (a1 : Int).toNat).length < 17592186044416 then ((some (y187 ++ (l0.take (a1 : Int).toNat) : List Int)).bind fun y191 => (if 0 ≤ (wrap64 (a1 + 1)) then (if (wrap64 (a1 + 1)) ≤ (l0.length : Int) then (if y191.length + (l0.drop ((wrap64 (a1 + 1)) : Int).toNat).length < 17592186044416 then (some (y191 ++ (l0.drop ((wrap64 (a1 + 1)) : Int).toNat))) else (none)) else (none)) else (none))) else (none)) else (none)) else (none))
def customsref33_out.T1 : Bool × List (List Nat × List Nat) := (true, [([], []), ([], []), ([], []), ([1, 2], [1, 2]), ([0, 3], [0, 3]), ([], []), ([], []), ([6], [6]), ([5, 7], [5, 7]), ([4, 8, 4], [4, 8]), ([9, 9, 0, 1, 2, 3, 4, 5, 6, 7, 8, 9], [9])])
def customsref33_out.B1 : List Nat := [0, 0, 0, 6, 15, 0, 0, 64, 224, 511, 1023]
theorem customsref33_out.tab1 : rtab .any (opsOf Try.f35 1) = customsref33_out.T1 := by kernel_rfl
theorem customsref33_out.bits1 : waitsOk customsref33_out.T1.2 customsref33_out.B1 = true := by kernel_rfl
set_option maxHeartbeats 8000000 in
set_option maxRecDepth 100000 in
theorem customsref33_out.calls (A0 : Option Addr) (c0 : Nat) (l0 : List Int) (a1 : Int) (r : List Int) (w : World) (hr0 : Kd.C (Kd.int .i64) w A0 l0.length l0) (hc0 : l0.length ≤ c0) (h : customsref33_out.f l0 a1 = some r) :
    Calls Try.prog 35 #[.slice A0 l0.length c0, .int .i64 a1] w fun e w' => ∃ v0_ : Value, e = .returned (v0_) ∧ Kd.R (Kd.int .i64) 3 w' w.heap.size (fun _ => True) v0_ r ∧ Below w.heap.size w w' := by
  have HR0 := Aside0.mk hr0
  have HC0 := Aside0.mk hc0
  clear hr0 hc0
  have HB := Aside0.mk (Below.refl w.heap.size w)
  have H : ((some (([] : List Int) : List Int)).bind fun y187 => (if 0 ≤ a1 then (if a1 ≤ (l0.length : Int) then (if y187.length + (l0.take (a1 : Int).toNat).length < 17592186044416 then ((some (y187 ++ (l0.take (a1 : Int).toNat) : List Int)).bind fun y191 => (if 0 ≤ (wrap64 (a1 + 1)) then (if (wrap64 (a1 + 1)) ≤ (l0.length : Int) then (if y191.length + (l0.drop ((wrap64 (a1 + 1)) : Int).toNat).length < 17592186044416 then (some (y191 ++ (l0.drop ((wrap64 (a1 + 1)) : Int).toNat))) else (none)) else (none)) else (none))) else (none)) else (none)) else (none))) = some r := h
  clear h
  obtain ⟨y187, hy187⟩ : ∃ y_ : List Int, y_ = (([] : List Int)) := ⟨_, rfl⟩
  replace H : (if 0 ≤ a1 then (if a1 ≤ (l0.length : Int) then (if y187.length + (l0.take (a1 : Int).toNat).length < 17592186044416 then ((some (y187 ++ (l0.take (a1 : Int).toNat) : List Int)).bind fun y191 => (if 0 ≤ (wrap64 (a1 + 1)) then (if (wrap64 (a1 + 1)) ≤ (l0.length : Int) then (if y191.length + (l0.drop ((wrap64 (a1 + 1)) : Int).toNat).length < 17592186044416 then (some (y191 ++ (l0.drop ((wrap64 (a1 + 1)) : Int).toNat))) else (none)) else (none)) else (none))) else (none)) else (none)) else (none)) = some r := by first | (rw [hy187]; with_reducible exact H) | (have H2_ := (Option.bind_some _ _).symm.trans H; rw [hy187]; with_reducible exact H2_) | (have H2_ := (Option.bind_some _ _).symm.trans H; with_reducible exact H2_) | with_reducible exact H | (rw [hy187]; exact H) | exact H
  have Ny187 := Aside0.mk hy187
  clear hy187
  have c3 : 0 ≤ a1 := by
    refine Classical.byContradiction fun c3 => ?_
    rw [if_neg c3] at H
    exact absurd H (by simp)
  rw [if_pos c3] at H
  have c3b0 := eq_true c3
  have c3b1 : decide (0 ≤ a1) = true := decide_eq_true c3
  clear c3
  have c4 : a1 ≤ (l0.length : Int) := by
    refine Classical.byContradiction fun c4 => ?_
    rw [if_neg c4] at H
    exact absurd H (by simp)
  rw [if_pos c4] at H
  have c4b0 := eq_true c4
  have c4b1 : decide (a1 ≤ (l0.length : Int)) = true := decide_eq_true c4
  clear c4
  have c5 : y187.length + (l0.take (a1 : Int).toNat).length < 17592186044416 := by
    refine Classical.byContradiction fun c5 => ?_
    rw [if_neg c5] at H
    exact absurd H (by simp)
  rw [if_pos c5] at H
  have LMc5 := Aside0.mk c5
  clear c5
  obtain ⟨y191, hy191⟩ : ∃ y_ : List Int, y_ = (y187 ++ (l0.take (a1 : Int).toNat)) := ⟨_, rfl⟩
  replace H : (if 0 ≤ (wrap64 (a1 + 1)) then (if (wrap64 (a1 + 1)) ≤ (l0.length : Int) then (if y191.length + (l0.drop ((wrap64 (a1 + 1)) : Int).toNat).length < 17592186044416 then (some (y191 ++ (l0.drop ((wrap64 (a1 + 1)) : Int).toNat))) else (none)) else (none)) else (none)) = some r := by first | (rw [hy191]; with_reducible exact H) | (have H2_ := (Option.bind_some _ _).symm.trans H; rw [hy191]; with_reducible exact H2_) | (have H2_ := (Option.bind_some _ _).symm.trans H; with_reducible exact H2_) | with_reducible exact H | (rw [hy191]; exact H) | exact H
  have Ny191 := Aside0.mk hy191
  clear hy191
  obtain ⟨ji6, hji6⟩ : ∃ j_ : Int, (wrap64 (a1 + 1)) = j_ := ⟨_, rfl⟩
  replace H : (if 0 ≤ (ji6) then (if (ji6) ≤ (l0.length : Int) then (if y191.length + (l0.drop ((ji6) : Int).toNat).length < 17592186044416 then (some (y191 ++ (l0.drop ((ji6) : Int).toNat))) else (none)) else (none)) else (none)) = some r := by first | (rw [hji6] at H; exact H) | (simp only [hji6] at H ⊢; exact H)
  have hji6w : (IntKind.i64.wrap (a1 + 1)) = ji6 := (i64_w _).trans hji6
  have c7 : 0 ≤ (ji6) := by
    refine Classical.byContradiction fun c7 => ?_
    rw [if_neg c7] at H
    exact absurd H (by simp)
  rw [if_pos c7] at H
  have c7b0 := eq_true c7
  have c7b1 : decide (0 ≤ (ji6)) = true := decide_eq_true c7
  clear c7
  have c8 : (ji6) ≤ (l0.length : Int) := by
    refine Classical.byContradiction fun c8 => ?_
    rw [if_neg c8] at H
    exact absurd H (by simp)
  rw [if_pos c8] at H
  have c8b0 := eq_true c8
  have c8b1 : decide ((ji6) ≤ (l0.length : Int)) = true := decide_eq_true c8
  clear c8
  have c9 : y191.length + (l0.drop ((ji6) : Int).toNat).length < 17592186044416 := by
    refine Classical.byContradiction fun c9 => ?_
    rw [if_neg c9] at H
    exact absurd H (by simp)
  rw [if_pos c9] at H
  have LMc9 := Aside0.mk c9
  clear c9
  obtain ⟨y195, hy195⟩ : ∃ y_ : List Int, y_ = (y191 ++ (l0.drop ((ji6) : Int).toNat)) := ⟨_, rfl⟩
  replace H : (some y195) = some r := by first | (rw [hy195]; with_reducible exact H) | (have H2_ := (Option.bind_some _ _).symm.trans H; rw [hy195]; with_reducible exact H2_) | (have H2_ := (Option.bind_some _ _).symm.trans H; with_reducible exact H2_) | with_reducible exact H | (rw [hy195]; exact H) | exact H
  have Ny195 := Aside0.mk hy195
  clear hy195
  obtain rfl := Option.some.inj H
  go_enter Try.func35, Try.ntmps35
  try go_wp2
  have n0_ := Aside0.mk (below_drew1 HB.out)
  clear HB
  have HB := n0_
  clear n0_
  obtain ⟨i011, hi011, _, hsz11, _⟩ := info_parts info3
  obtain ⟨hcut11, hA11, hC11⟩ := print_take_of (P := Try.prog) (Value.int .i64) 0 22 3 .i64 Try.underlying22 hi011 hsz11 A0 c0 l0 a1 (of_decide_eq_true (by first | (with_reducible assumption) | assumption)) (of_decide_eq_true (by first | (with_reducible assumption) | assumption)) HC0.out
  have HR190 := Aside0.mk (Kd.C_of_reads (h1 := fun _ => rfl) (hA11 _ (Kd.reads_of_C HR0.out)))
  have HC190 := Aside0.mk hC11
  clear hA11 hC11 hi011 hsz11
  obtain ⟨i012, hi012, _, hsz12, _⟩ := info_parts info3
  obtain ⟨A12, hcut12, hA12, hC12⟩ := print_drop_of (P := Try.prog) (Value.int .i64) 0 22 3 .i64 Try.underlying22 hi012 hsz12 A0 c0 l0 (ji6) (of_decide_eq_true (by first | (with_reducible assumption) | assumption)) (of_decide_eq_true (by first | (with_reducible assumption) | assumption)) HC0.out
  have HR194 := Aside0.mk (Kd.C_of_reads (h1 := fun _ => rfl) (hA12 _ (Kd.reads_of_C HR0.out)))
  have HC194 := Aside0.mk hC12
  clear hA12 hC12 hi012 hsz12
  refine start_ (n := 11) (S := fun w' => True) (ds := []) #[false, false, false, false, false, false, false, false, false, false, false] (by kernel_rfl) rfl rfl trivial (fun hHeld => ?_); refine with_tabW customsref33_out.tab1 customsref33_out.bits1 (fun HT_ HW_ => ?_)
  generalize w.drew = w10 at HB HR190 HR194 hHeld ⊢
  refine pure_ (i := 1) (N := some 6) (v := ?_) (a' := ?_) #[false, true, false, false, false, false, false, false, false, false, false] rfl rfl (any_of HT_.out (by kernel_rfl)) (fun _ _ _ h => h) (Or.inl ⟨by rfl, ?_⟩) ?_ ?_
  rotate_left
  · intro w'
    go_simp
    with_reducible rfl
  rotate_left
  · simp only [Act.put, List.setIfInBounds_toArray, List.set_cons_zero, List.set_cons_succ, i64_w, i32_w]
    rfl
  refine pure_ (i := 2) (N := some 7) (v := ?_) (a' := ?_) #[false, true, true, false, false, false, false, false, false, false, false] rfl rfl (any_of HT_.out (by kernel_rfl)) (fun _ _ _ h => h) (Or.inl ⟨by rfl, ?_⟩) ?_ ?_
  rotate_left
  · intro w'
    go_simp
    with_reducible rfl
  rotate_left
  · simp only [Act.put, List.setIfInBounds_toArray, List.set_cons_zero, List.set_cons_succ, i64_w, i32_w]
    rfl
  refine pure_ (i := 3) (N := some 8) (v := ?_) (a' := ?_) #[false, true, true, true, false, false, false, false, false, false, false] rfl rfl (any_of HT_.out (by kernel_rfl)) (fun _ _ _ h => h) (Or.inl ⟨by rfl, ?_⟩) ?_ ?_
  rotate_left
  · intro w'
    go_simp
    with_reducible rfl
  rotate_left
  · simp only [Act.put, List.setIfInBounds_toArray, List.set_cons_zero, List.set_cons_succ, i64_w, i32_w]
    rfl
  refine pure_ (i := 5) (N := some 10) (v := ?_) (a' := ?_) #[false, true, true, true, false, true, false, false, false, false, false] rfl rfl (any_of HT_.out (by kernel_rfl)) (fun _ _ _ h => h) (Or.inl ⟨by rfl, ?_⟩) ?_ ?_
  rotate_left
  · intro w'
    go_simp
    with_reducible rfl
  rotate_left
  · simp only [Act.put, List.setIfInBounds_toArray, List.set_cons_zero, List.set_cons_succ, i64_w, i32_w]
    rfl
  refine pure_ (i := 6) (N := some 11) (v := ?_) (a' := ?_) #[false, true, true, true, false, true, true, false, false, false, false] rfl rfl (any_of HT_.out (by kernel_rfl)) (fun _ _ _ h => h) (Or.inl ⟨by rfl, ?_⟩) ?_ ?_
  rotate_left
  · intro w'
    go_simp
    with_reducible rfl
  rotate_left
  · simp only [Act.put, List.setIfInBounds_toArray, List.set_cons_zero, List.set_cons_succ, i64_w, i32_w]
    rfl
  refine pure_ (i := 7) (N := some 12) (v := ?_) (a' := ?_) #[false, true, true, true, false, true, true, true, false, false, false] rfl rfl (any_of HT_.out (by kernel_rfl)) (fun _ _ _ h => h) (Or.inl ⟨by rfl, ?_⟩) ?_ ?_
  rotate_left
  · intro w'
    go_simp
    with_reducible rfl
  rotate_left
  · simp only [Act.put, List.setIfInBounds_toArray, List.set_cons_zero, List.set_cons_succ, i64_w, i32_w]
    rfl
  refine pure_ (i := 8) (N := some 13) (v := ?_) (a' := ?_) #[false, true, true, true, false, true, true, true, true, false, false] rfl rfl (any_of HT_.out (by kernel_rfl)) (fun _ _ _ h => h) (Or.inl ⟨by rfl, ?_⟩) ?_ ?_
  rotate_left
  · intro w'
    go_simp
    with_reducible rfl
  rotate_left
  · simp only [Act.put, List.setIfInBounds_toArray, List.set_cons_zero, List.set_cons_succ, i64_w, i32_w]
    rfl
  refine one_ (i := 0) (N := some 5) #[true, true, true, true, false, true, true, true, true, false, false] rfl rfl (one_of HT_.out (by kernel_rfl)) (by decide) (fun K hK => ?_)
  refine Kd.R_lit_step (Kd.int .i64) _ 3 ?hg (N := 5) ?hd (xs := ([] : List Int)) (inner := []) (ok := fun _ => True) (okp := fun _ => True) ?hr ?hp (fun _ hk => hk) trivial (Below.refl _ _) (Nat.le_refl _) (by simp) ?_; (case hd => rfl); (case hg => rfl); (case hr => first | (go_simp; done) | (go_simp; rfl)); (case hp => exact (Reps.none _ _))
  intro v188 w13 ho14 hb hg_ hnew_
  clear hg_ hnew_
  (first | rw [← Ny187.out] at ho14 | (simp only [Int.reduceToNat] at ho14; rw [← Ny187.out] at ho14))
  have n0_ := Aside0.mk (Kd.R_lower ho14 (below_size (by exact pB HB.out)))
  have n1_ := Aside0.mk (below_step (by exact pB HB.out) hb)
  clear HB
  have HO189 := n0_
  have HB := n1_
  clear n0_ n1_
  clear hb ho14
  refine hK.out _ _ trivial (fun hHeld => ?_)
  clear hK K
  refine norm_ (a' := ?_) ?_ ?_
  rotate_left
  · show Act.put _ (some 5) _ = _
    simp only [Act.put, List.setIfInBounds_toArray, List.set_cons_zero, List.set_cons_succ, i64_w, i32_w]
    rfl
  refine one_ (i := 4) (N := some 9) #[true, true, true, true, true, true, true, true, true, false, false] rfl rfl (one_of HT_.out (by kernel_rfl)) (by decide) (fun K hK => ?_)
  refine Kd.R_append_rows_step (Kd.int .i64) (w0 := w) w.heap.size (by rfl) (.tmp 5) (.tmp 8) 22 3 (.int .i64 0) 8 rfl Try.underlying22 info3 rfl (by decide) (by omega) v188 y187 (l0.take (a1 : Int).toNat) _ _ _ (fun _ => True) (fun _ => False) rfl rfl ?aO ?aR (fun _ _ h => h) (fun _ h => h.elim) ?aF ?aB ?aS ?aL ?_
  (case aR => first | (rw [← show (l0.take (a1 : Int).toNat).length = a1.toNat from (by rw [List.length_take]; have h_ : (a1 : Int) ≤ (l0.length : Int) := of_decide_eq_true (by first | (with_reducible assumption) | assumption); omega)]; exact pC (Kd.C_below HR190.out HB.out)) | (have e_ := HR190.out; rw [show (l0.take (a1 : Int).toNat).length = a1.toNat from (by rw [List.length_take]; have h_ : (a1 : Int) ≤ (l0.length : Int) := of_decide_eq_true (by first | (with_reducible assumption) | assumption); omega)] at e_; exact pC (Kd.C_below e_ HB.out)) | (exact pC (Kd.C_below HR190.out HB.out)))
  (case aB => exact (by exact pB HB.out))
  (case aF => exact (fun _ _ => trivial))
  (case aO => exact (by exact pR HO189.out))
  (case aS => exact (below_size (by exact pB HB.out)))
  (case aL => have := LMc5.out; have hlx_ := (show (l0.take (a1 : Int).toNat).length = a1.toNat from (by rw [List.length_take]; have h_ : (a1 : Int) ≤ (l0.length : Int) := of_decide_eq_true (by first | (with_reducible assumption) | assumption); omega)); omega)
  intro v192 w15 ho hb hg hat
  rw [← Ny191.out] at ho
  have n0_ := Aside0.mk (hb)
  have n1_ := Aside0.mk (ho)
  clear HB
  clear HO189
  have HB := n0_
  have HO193 := n1_
  clear n0_ n1_
  clear ho hb hg hat
  refine hK.out _ _ trivial (fun hHeld => ?_)
  clear hK K
  refine norm_ (a' := ?_) ?_ ?_
  rotate_left
  · show Act.put _ (some 9) _ = _
    simp only [Act.put, List.setIfInBounds_toArray, List.set_cons_zero, List.set_cons_succ, i64_w, i32_w]
    rfl
  refine one_ (i := 9) (N := some 14) #[true, true, true, true, true, true, true, true, true, true, false] rfl rfl (one_of HT_.out (by kernel_rfl)) (by decide) (fun K hK => ?_)
  refine Kd.R_append_rows_step (Kd.int .i64) (w0 := w) w.heap.size (by rfl) (.tmp 9) (.tmp 13) 22 3 (.int .i64 0) 8 rfl Try.underlying22 info3 rfl (by decide) (by omega) v192 y191 (l0.drop ((ji6) : Int).toNat) _ _ _ (fun _ => True) (fun _ => False) rfl rfl ?aO ?aR (fun _ _ h => h) (fun _ h => h.elim) ?aF ?aB ?aS ?aL ?_
  (case aR => first | (rw [← show (l0.drop ((ji6) : Int).toNat).length = (l0.length - (ji6).toNat) from List.length_drop]; exact pC (Kd.C_below HR194.out HB.out)) | (have e_ := HR194.out; rw [show (l0.drop ((ji6) : Int).toNat).length = (l0.length - (ji6).toNat) from List.length_drop] at e_; exact pC (Kd.C_below e_ HB.out)) | (exact pC (Kd.C_below HR194.out HB.out)))
  (case aB => exact (by exact pB HB.out))
  (case aF => exact (fun _ _ => trivial))
  (case aO => exact (by exact pR HO193.out))
  (case aS => exact (below_size (by exact pB HB.out)))
  (case aL => have := LMc9.out; have hlx_ := (show (l0.drop ((ji6) : Int).toNat).length = (l0.length - (ji6).toNat) from List.length_drop); omega)
  intro v196 w16 ho hb hg hat
  rw [← Ny195.out] at ho
  have n0_ := Aside0.mk (hb)
  have n1_ := Aside0.mk (ho)
  clear HB
  clear HO193
  have HB := n0_
  have HO197 := n1_
  clear n0_ n1_
  clear ho hb hg hat
  refine hK.out _ _ trivial (fun hHeld => ?_)
  clear hK K
  refine norm_ (a' := ?_) ?_ ?_
  rotate_left
  · show Act.put _ (some 14) _ = _
    simp only [Act.put, List.setIfInBounds_toArray, List.set_cons_zero, List.set_cons_succ, i64_w, i32_w]
    rfl
  refine pure_ (i := 10) (N := some 4) (v := ?_) (a' := ?_) #[true, true, true, true, true, true, true, true, true, true, true] rfl rfl (any_of HT_.out (by kernel_rfl)) (fun _ _ _ h => h) (Or.inl ⟨by rfl, ?_⟩) ?_ ?_
  rotate_left
  · intro w'
    go_simp
    with_reducible rfl
  rotate_left
  · simp only [Act.put, List.setIfInBounds_toArray, List.set_cons_zero, List.set_cons_succ, i64_w, i32_w]
    rfl
  refine done_ (done_of HT_.out (by kernel_rfl)) ?_
  try go_wp2
  go_ret
  exact ⟨_, by first | rfl | (simp [errW_none, errW_some] <;> rfl) | (simp only [← hji6]; first | rfl | (simp [errW_none, errW_some] <;> rfl)) | (simp [*, errW_none, errW_some] <;> rfl), by exact pR HO197.out, by exact pB HB.out⟩

end Go.Proofs.Ytlhmgigjbeefbaa.PChannelSteps
