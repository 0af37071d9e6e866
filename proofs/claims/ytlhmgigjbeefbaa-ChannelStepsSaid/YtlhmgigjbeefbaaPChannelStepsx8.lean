-- Printed by a patched copy of the kit's printer (wip/prt); nothing here is trusted, Lean checks it.
import Derived.Test.YtlhmgigjbeefbaaPChannelStepsx0
import Derived.Test.YtlhmgigjbeefbaaPChannelStepsx1
import Derived.Test.YtlhmgigjbeefbaaPChannelStepsx2
import Derived.Test.YtlhmgigjbeefbaaPChannelStepsx3
import Derived.Test.YtlhmgigjbeefbaaPChannelStepsx4
import Derived.Test.YtlhmgigjbeefbaaPChannelStepsx5
import Derived.Test.YtlhmgigjbeefbaaPChannelStepsx6
import Derived.Test.YtlhmgigjbeefbaaPChannelStepsx7
import Derived.Test.YtlhmgigjbeefbaaPChannelStepsx8b
namespace Go.Proofs.Ytlhmgigjbeefbaa.PChannelSteps
open Go.RowKit Go.Proofs.YtlhmgigjbeefbaaW.PrintWords Go.Proofs.YtlhmgigjbeefbaaW.PrintLast Go.Proofs.YtlhmgigjbeefbaaW.PrintMore
attribute [local go_sem] max2_int min2_int max_two min_two max_three min_three max_four min_four   -- for this text's walks alone
set_option linter.unusedVariables false
set_option linter.unusedSimpArgs false
set_option maxHeartbeats 8000000 in
set_option maxRecDepth 100000 in
theorem customslaw38_ChannelSteps.calls (k : Nat) (a0_0 : Int) (P0_1_ : Nat → Prop) (A0_1 : Option Addr) (c0_1 : Nat) (l0_1 : List Int) (P0_2_ : Nat → Prop) (A0_2 : Option Addr) (c0_2 : Nat) (l0_2 : List Int) (a1 : Int) (a2 : Int) (a3 : Int) (a4 : Bool) (w : World) (hs0_1 : Kd.V (Kd.int .i64) 3 w w.heap.size (fun k_ => P0_1_ k_) (.slice A0_1 l0_1.length c0_1) l0_1) (hs0_2 : Kd.V (Kd.int .i64) 3 w w.heap.size (fun k_ => P0_2_ k_) (.slice A0_2 l0_2.length c0_2) l0_2) (h : customslaw38_ChannelSteps.f k a0_0 l0_1 l0_2 a1 a2 a3 a4 = some true) :
    Calls Try.prog 5 #[.agg #[.int .i64 a0_0, .slice A0_1 l0_1.length c0_1, .slice A0_2 l0_2.length c0_2], .int .i64 a1, .int .i64 a2, .int .i64 a3, .bool a4] w fun e w' => e = .returned (.bool true) ∧ Below w.heap.size w w' := by
  have hu24 := Try.underlying24
  have HO0_1 := Aside0.mk (show Kd.V (Kd.int .i64) 3 w w.heap.size (fun k_ => ((P0_1_ k_ ∨ P0_2_ k_) ∨ w.heap.size ≤ k_)) (.slice A0_1 l0_1.length c0_1) l0_1 from Kd.V_mono hs0_1 (fun k_ hk => .inl (.inl hk)))
  have HO0_2 := Aside0.mk (show Kd.V (Kd.int .i64) 3 w w.heap.size (fun k_ => ((P0_1_ k_ ∨ P0_2_ k_) ∨ w.heap.size ≤ k_)) (.slice A0_2 l0_2.length c0_2) l0_2 from Kd.V_mono hs0_2 (fun k_ hk => .inl (.inr hk)))
  have HB := Aside0.mk (Below.refl w.heap.size w)
  have H : (if a4 = true then (customslaw38_ChannelSteps.j3 k a1 a2 a3 a0_0 l0_1 l0_2) else ((customsmade_Within.f a0_0 5).bind fun t320 => (customslaw38_ChannelSteps.l0 k a1 a2 a3 0 a0_0 l0_1 l0_2 t320 ([] : List Int)))) = some true := h
  clear h
  have HC6 := Aside0.mk H
  clear H
  go_enter Try.func5, Try.ntmps5
  go_upto_if 22 with (first | ((with_reducible refine gate_dst (N := 5) rfl ?_); refine box_event ?hg (N := 5) ?hd (cs := #[.int .i64 a0_0, .slice A0_1 l0_1.length c0_1, .slice A0_2 l0_2.length c0_2]) (t := 24) ?hr ?_; (case hd => rfl); (case hg => rfl); (case hr => first | (go_simp; done) | (go_simp; rfl)); intro gb318 hg w7 hbox hb; have n0_ := Aside0.mk (Kd.V_below (Kd.V_elderB (by exact pV HO0_1.out) gb318 (Nat.le_of_eq hg.symm)) hb); have n1_ := Aside0.mk (Kd.V_below (Kd.V_elderB (by exact pV HO0_2.out) gb318 (Nat.le_of_eq hg.symm)) hb); have n2_ := Aside0.mk (below_step (by exact pB HB.out) hb); have n3_ := Aside0.mk (hbox); have n4_ := Aside0.mk ((by rw [hg]; exact (below_size (by exact pB HB.out)) : w.heap.size ≤ gb318)); have n5_ := Aside0.mk ((by rw [hg]; exact (below_size (by exact pB HB.out)) : w.heap.size ≤ gb318)); clear HO0_1; clear HO0_2; clear HB; have HO0_1 := n0_; have HO0_2 := n1_; have HB := n2_; have BK318 := n3_; have GW318 := n4_; have GE318 := n5_; clear n0_ n1_ n2_ n3_ n4_ n5_; clear hb hbox hg; have hcz8_0 : w7.cell? ⟨gb318, 0, none⟩ = some (.int .i64 a0_0) := (blk_cell BK318.out 0).trans rfl; have hcz8_1 : w7.cell? ⟨gb318, 1, none⟩ = some (.slice A0_1 l0_1.length c0_1) := (blk_cell BK318.out 1).trans rfl; have hcz8_2 : w7.cell? ⟨gb318, 2, none⟩ = some (.slice A0_2 l0_2.length c0_2) := (blk_cell BK318.out 2).trans rfl; have hfz8_0 := blk_frozen BK318.out 0; have hfz8_1 := blk_frozen BK318.out 1; have hfz8_2 := blk_frozen BK318.out 2) | ((with_reducible refine gate_dst (N := 11) rfl ?_); refine box_event ?hg (N := 11) ?hd (cs := #[.int .i64 0, .slice none 0 0, .slice none 0 0]) (t := 24) ?hr ?_; (case hd => rfl); (case hg => rfl); (case hr => first | (go_simp; done) | (go_simp; rfl)); intro gb319 hg w9 hbox hb; have n0_ := Aside0.mk (Kd.V_below (Kd.V_elderB (by exact pV HO0_1.out) gb319 (Nat.le_of_eq hg.symm)) hb); have n1_ := Aside0.mk (Kd.V_below (Kd.V_elderB (by exact pV HO0_2.out) gb319 (Nat.le_of_eq hg.symm)) hb); have n2_ := Aside0.mk (blk_below (g := gb318) (o := .cells #[.int .i64 a0_0, .slice A0_1 l0_1.length c0_1, .slice A0_2 l0_2.length c0_2] 24 (0, 0)) (by exact pK BK318.out) hb); have n3_ := Aside0.mk (below_step (by exact pB HB.out) hb); have n4_ := Aside0.mk (hbox); have n5_ := Aside0.mk ((by rw [hg]; exact (below_size (by exact pB HB.out)) : w.heap.size ≤ gb319)); have n6_ := Aside0.mk ((by rw [hg]; exact (below_size (by exact pB HB.out)) : w.heap.size ≤ gb319)); have n7_ := Aside0.mk ((by rw [hg]; exact Nat.ne_of_lt (blk_lt (g := gb318) (o := .cells #[.int .i64 a0_0, .slice A0_1 l0_1.length c0_1, .slice A0_2 l0_2.length c0_2] 24 (0, 0)) (by exact pK BK318.out)) : gb318 ≠ gb319)); have n8_ := Aside0.mk ((by rw [hg]; exact Nat.ne_of_gt (blk_lt (g := gb318) (o := .cells #[.int .i64 a0_0, .slice A0_1 l0_1.length c0_1, .slice A0_2 l0_2.length c0_2] 24 (0, 0)) (by exact pK BK318.out)) : gb319 ≠ gb318)); clear HO0_1; clear HO0_2; clear BK318; clear HB; have HO0_1 := n0_; have HO0_2 := n1_; have BK318 := n2_; have HB := n3_; have BK319 := n4_; have GW319 := n5_; have GE319 := n6_; have NB318_319 := n7_; have NB319_318 := n8_; clear n0_ n1_ n2_ n3_ n4_ n5_ n6_ n7_ n8_; clear hb hbox hg; have hnb10 := NB319_318.out; have hnc10 := NB318_319.out; have hcz11_0 : w9.cell? ⟨gb319, 0, none⟩ = some (.int .i64 0) := (blk_cell BK319.out 0).trans rfl; have hcz11_1 : w9.cell? ⟨gb319, 1, none⟩ = some (.slice none 0 0) := (blk_cell BK319.out 1).trans rfl; have hcz11_2 : w9.cell? ⟨gb319, 2, none⟩ = some (.slice none 0 0) := (blk_cell BK319.out 2).trans rfl; have hfz11_0 := blk_frozen BK319.out 0; have hfz11_1 := blk_frozen BK319.out 1; have hfz11_2 := blk_frozen BK319.out 2))
  (try simp only [Act.put, List.setIfInBounds_toArray, List.set_cons_zero, List.set_cons_succ])
  go_cut [1, 2, 3] (fun v1 v2 v3 wc => ∃ (kq : Nat) (x1_5 : Int) (x2_5 : Int) (x3_5 : Int) (x320000_5 : Int) (x320001_5 : List Int) (x320002_5 : List Int) (u320001 : Value) (u320002 : Value), v1 = .int .i64 x1_5 ∧ v2 = .int .i64 x2_5 ∧ v3 = .int .i64 x3_5 ∧ Aside0 (customslaw38_ChannelSteps.j3 kq x1_5 x2_5 x3_5 x320000_5 x320001_5 x320002_5 = some true) ∧ Aside0 (kq ≤ k) ∧ Aside0 (Kd.V (Kd.int .i64) 3 wc w.heap.size (fun k_ => ((P0_1_ k_ ∨ P0_2_ k_) ∨ w.heap.size ≤ k_) ∧ k_ ≠ gb318 ∧ k_ ≠ gb319) (.slice A0_1 l0_1.length c0_1) l0_1) ∧ Aside0 (Kd.V (Kd.int .i64) 3 wc w.heap.size (fun k_ => ((P0_1_ k_ ∨ P0_2_ k_) ∨ w.heap.size ≤ k_) ∧ k_ ≠ gb318 ∧ k_ ≠ gb319) (.slice A0_2 l0_2.length c0_2) l0_2) ∧ Aside0 (Kd.V (Kd.int .i64) 3 wc w.heap.size (fun k_ => ((P0_1_ k_ ∨ P0_2_ k_) ∨ w.heap.size ≤ k_) ∧ k_ ≠ gb318 ∧ k_ ≠ gb319) u320001 x320001_5) ∧ Aside0 (Kd.V (Kd.int .i64) 3 wc w.heap.size (fun k_ => ((P0_1_ k_ ∨ P0_2_ k_) ∨ w.heap.size ≤ k_) ∧ k_ ≠ gb318 ∧ k_ ≠ gb319) u320002 x320002_5) ∧ Aside0 (wc.heap[gb318]? = some (.cells #[.int .i64 a0_0, (.slice A0_1 l0_1.length c0_1), (.slice A0_2 l0_2.length c0_2)] 24 (0, 0))) ∧ Aside0 (wc.heap[gb319]? = some (.cells #[.int .i64 x320000_5, u320001, u320002] 24 (0, 0))) ∧ Aside0 (Below w.heap.size w wc))
  case first => as_aux_lemma =>
    have H := HC6.out
    clear HC6
    by_cases c12 : a4 = true
    · subst c12
      have H1 : (customslaw38_ChannelSteps.j3 k a1 a2 a3 a0_0 l0_1 l0_2) = some true := by rw [if_pos rfl] at H; exact H
      clear H
      have H := H1
      clear H1
      have H' := Aside0.mk H
      clear H
      go_wp2
      go_meet
      case rel => exact ⟨_, (a1), (a2), (a3), (a0_0), (l0_1), (l0_2), (.slice A0_1 l0_1.length c0_1), (.slice A0_2 l0_2.length c0_2), (by first | rfl | (simp; done) | (simp [*]; done)), (by first | rfl | (simp; done) | (simp [*]; done)), (by first | rfl | (simp; done) | (simp [*]; done)), H', ⟨by first | omega | exact Nat.le_refl _⟩, ⟨by (with_reducible repeat (first | apply Kd.V_alloc | apply Kd.V_drewN | apply Kd.V_drew)); exact Kd.V_mono (Kd.V_far (p := ⟨gb319, 2, none⟩) (Kd.V_far (p := ⟨gb319, 1, none⟩) (Kd.V_far (p := ⟨gb319, 0, none⟩) (Kd.V_mono HO0_1.out (fun k_ hk => (⟨hk, hk.2⟩ : _ ∧ k_ ≠ gb319))) (fun _ hk => hk.2) (.int .i64 a0_0)) (fun _ hk => hk.2) (.slice A0_1 l0_1.length c0_1)) (fun _ hk => hk.2) (.slice A0_2 l0_2.length c0_2)) (fun _ hk => ⟨hk.1.1.1, ⟨hk.1.1.2, hk.1.2⟩⟩)⟩, ⟨by (with_reducible repeat (first | apply Kd.V_alloc | apply Kd.V_drewN | apply Kd.V_drew)); exact Kd.V_mono (Kd.V_far (p := ⟨gb319, 2, none⟩) (Kd.V_far (p := ⟨gb319, 1, none⟩) (Kd.V_far (p := ⟨gb319, 0, none⟩) (Kd.V_mono HO0_2.out (fun k_ hk => (⟨hk, hk.2⟩ : _ ∧ k_ ≠ gb319))) (fun _ hk => hk.2) (.int .i64 a0_0)) (fun _ hk => hk.2) (.slice A0_1 l0_1.length c0_1)) (fun _ hk => hk.2) (.slice A0_2 l0_2.length c0_2)) (fun _ hk => ⟨hk.1.1.1, ⟨hk.1.1.2, hk.1.2⟩⟩)⟩, ⟨by (with_reducible repeat (first | apply Kd.V_alloc | apply Kd.V_drewN | apply Kd.V_drew)); exact Kd.V_mono (Kd.V_far (p := ⟨gb319, 2, none⟩) (Kd.V_far (p := ⟨gb319, 1, none⟩) (Kd.V_far (p := ⟨gb319, 0, none⟩) (Kd.V_mono HO0_1.out (fun k_ hk => (⟨hk, hk.2⟩ : _ ∧ k_ ≠ gb319))) (fun _ hk => hk.2) (.int .i64 a0_0)) (fun _ hk => hk.2) (.slice A0_1 l0_1.length c0_1)) (fun _ hk => hk.2) (.slice A0_2 l0_2.length c0_2)) (fun _ hk => ⟨hk.1.1.1, ⟨hk.1.1.2, hk.1.2⟩⟩)⟩, ⟨by (with_reducible repeat (first | apply Kd.V_alloc | apply Kd.V_drewN | apply Kd.V_drew)); exact Kd.V_mono (Kd.V_far (p := ⟨gb319, 2, none⟩) (Kd.V_far (p := ⟨gb319, 1, none⟩) (Kd.V_far (p := ⟨gb319, 0, none⟩) (Kd.V_mono HO0_2.out (fun k_ hk => (⟨hk, hk.2⟩ : _ ∧ k_ ≠ gb319))) (fun _ hk => hk.2) (.int .i64 a0_0)) (fun _ hk => hk.2) (.slice A0_1 l0_1.length c0_1)) (fun _ hk => hk.2) (.slice A0_2 l0_2.length c0_2)) (fun _ hk => ⟨hk.1.1.1, ⟨hk.1.1.2, hk.1.2⟩⟩)⟩, ⟨by (with_reducible repeat (first | refine blk_drewN ?_ _ | refine blk_drew ?_ | refine blk_alloc ?_ _)); refine blk_far ?_ NB318_319.out _; (with_reducible repeat (first | refine blk_drewN ?_ _ | refine blk_drew ?_ | refine blk_alloc ?_ _)); refine blk_far ?_ NB318_319.out _; (with_reducible repeat (first | refine blk_drewN ?_ _ | refine blk_drew ?_ | refine blk_alloc ?_ _)); refine blk_far ?_ NB318_319.out _; (with_reducible repeat (first | refine blk_drewN ?_ _ | refine blk_drew ?_ | refine blk_alloc ?_ _)); exact BK318.out⟩, ⟨by (with_reducible repeat (first | refine blk_drewN ?_ _ | refine blk_drew ?_ | refine blk_alloc ?_ _)); refine blk_put (cs := #[.int .i64 a0_0, .slice A0_1 l0_1.length c0_1, .slice none 0 0]) ?_ 2 _ rfl; (with_reducible repeat (first | refine blk_drewN ?_ _ | refine blk_drew ?_ | refine blk_alloc ?_ _)); refine blk_put (cs := #[.int .i64 a0_0, .slice none 0 0, .slice none 0 0]) ?_ 1 _ rfl; (with_reducible repeat (first | refine blk_drewN ?_ _ | refine blk_drew ?_ | refine blk_alloc ?_ _)); refine blk_put (cs := #[.int .i64 0, .slice none 0 0, .slice none 0 0]) ?_ 0 _ rfl; (with_reducible repeat (first | refine blk_drewN ?_ _ | refine blk_drew ?_ | refine blk_alloc ?_ _)); exact BK319.out⟩, ⟨by repeat (first | (with_reducible first | exact HB.out | apply below_alloc | apply pw_below_drewN | apply below_drew1 | refine below_set ?_ GE318.out | refine below_set ?_ GE319.out) | exact HB.out)⟩⟩
    · replace c12 := Bool.eq_false_iff.mpr c12
      subst c12
      have H1 : ((customsmade_Within.f a0_0 5).bind fun t320 => (customslaw38_ChannelSteps.l0 k a1 a2 a3 0 a0_0 l0_1 l0_2 t320 ([] : List Int))) = some true := by rw [if_neg (show ¬ (false = true) by decide)] at H; exact H
      clear H
      have H := H1
      clear H1
      replace H := Option.bind_eq_some_iff.mp H
      obtain ⟨t320, A130, H⟩ := H
      replace H : (customslaw38_ChannelSteps.l0 k a1 a2 a3 0 a0_0 l0_1 l0_2 t320 ([] : List Int)) = some true := H
      have A13 := Aside0.mk A130
      clear A130
      have HC14 := Aside0.mk H
      clear H
      have hnb15 := NB318_319.out
      have hnc15 := NB319_318.out
      have hcz16_0 : w9.cell? ⟨gb318, 0, none⟩ = some (.int .i64 a0_0) := (blk_cell BK318.out 0).trans rfl
      have hcz16_1 : w9.cell? ⟨gb318, 1, none⟩ = some (.slice A0_1 l0_1.length c0_1) := (blk_cell BK318.out 1).trans rfl
      have hcz16_2 : w9.cell? ⟨gb318, 2, none⟩ = some (.slice A0_2 l0_2.length c0_2) := (blk_cell BK318.out 2).trans rfl
      have hfz16_0 := blk_frozen BK318.out 0
      have hfz16_1 := blk_frozen BK318.out 1
      have hfz16_2 := blk_frozen BK318.out 2
      go_upto_block 0 with (first | ((with_reducible refine gate_callee (f := 12) rfl ?_); refine goesL_ (some 25) rfl rfl Try.func12 (by kernel_rfl) rfl #[.int .i64 a0_0, .int .i64 5] rfl (by (try simp only [List.map_toArray, List.map_cons, List.map_nil]); first | done | rfl | (simp only [List.length_drop, List.length_take]; rfl)) ?_; (with_reducible refine (customsmade_Within.calls a0_0 5 t320 _ A13.out).mono ?_); rintro e w' ⟨rfl, ⟨nd, rfl⟩⟩; refine ⟨_, rfl, ?_⟩; have hcz17_0 : w9.cell? ⟨gb319, 0, none⟩ = some (.int .i64 0) := (blk_cell BK319.out 0).trans rfl; have hcz17_1 : w9.cell? ⟨gb319, 1, none⟩ = some (.slice none 0 0) := (blk_cell BK319.out 1).trans rfl; have hcz17_2 : w9.cell? ⟨gb319, 2, none⟩ = some (.slice none 0 0) := (blk_cell BK319.out 2).trans rfl; have hfz17_0 := blk_frozen BK319.out 0; have hfz17_1 := blk_frozen BK319.out 1; have hfz17_2 := blk_frozen BK319.out 2))
      (try simp only [Act.put, List.setIfInBounds_toArray, List.set_cons_zero, List.set_cons_succ])
      go_cut [] (fun wc => ∃ (kq : Nat) (x320001_13 : List Int) (u320001 : Value), Aside0 (customslaw38_ChannelSteps.j1 kq a1 a2 a3 a0_0 l0_1 l0_2 t320 x320001_13 = some true) ∧ Aside0 (kq ≤ k) ∧ Aside0 (Kd.V (Kd.int .i64) 3 wc w.heap.size (fun k_ => ((P0_1_ k_ ∨ P0_2_ k_) ∨ w.heap.size ≤ k_) ∧ some k_ ≠ (u320001 : Value).ownBlock ∧ k_ ≠ gb318 ∧ k_ ≠ gb319) (.slice A0_1 l0_1.length c0_1) l0_1) ∧ Aside0 (Kd.V (Kd.int .i64) 3 wc w.heap.size (fun k_ => ((P0_1_ k_ ∨ P0_2_ k_) ∨ w.heap.size ≤ k_) ∧ some k_ ≠ (u320001 : Value).ownBlock ∧ k_ ≠ gb318 ∧ k_ ≠ gb319) (.slice A0_2 l0_2.length c0_2) l0_2) ∧ Aside0 (Kd.R (Kd.int .i64) 3 wc w.heap.size (fun k_ => (w.heap.size ≤ k_)) u320001 x320001_13) ∧ Aside0 (wc.heap[gb318]? = some (.cells #[.int .i64 a0_0, (.slice A0_1 l0_1.length c0_1), (.slice A0_2 l0_2.length c0_2)] 24 (0, 0))) ∧ Aside0 (wc.heap[gb319]? = some (.cells #[.int .i64 t320, u320001, (.slice none 0 0)] 24 (0, 0))) ∧ Aside0 (Below w.heap.size w wc))
      case first => as_aux_lemma =>
        have H := HC14.out
        clear HC14
        have H' := Aside0.mk H
        clear H
        go_wp2
        go_loopg [12] k (fun kq v12 w' => ∃ (x12_1 : Int) (x320001_1 : List Int) (u320001 : Value), v12 = .int .i64 x12_1 ∧ Aside0 (customslaw38_ChannelSteps.l0 kq a1 a2 a3 x12_1 a0_0 l0_1 l0_2 t320 x320001_1 = some true) ∧ Aside0 (kq ≤ k) ∧ Aside0 (Kd.V (Kd.int .i64) 3 w' w.heap.size (fun k_ => ((P0_1_ k_ ∨ P0_2_ k_) ∨ w.heap.size ≤ k_) ∧ some k_ ≠ (u320001 : Value).ownBlock ∧ k_ ≠ gb318 ∧ k_ ≠ gb319) (.slice A0_1 l0_1.length c0_1) l0_1) ∧ Aside0 (Kd.V (Kd.int .i64) 3 w' w.heap.size (fun k_ => ((P0_1_ k_ ∨ P0_2_ k_) ∨ w.heap.size ≤ k_) ∧ some k_ ≠ (u320001 : Value).ownBlock ∧ k_ ≠ gb318 ∧ k_ ≠ gb319) (.slice A0_2 l0_2.length c0_2) l0_2) ∧ Aside0 (Kd.R (Kd.int .i64) 3 w' w.heap.size (fun k_ => (w.heap.size ≤ k_)) u320001 x320001_1) ∧ Aside0 (w'.heap[gb318]? = some (.cells #[.int .i64 a0_0, (.slice A0_1 l0_1.length c0_1), (.slice A0_2 l0_2.length c0_2)] 24 (0, 0))) ∧ Aside0 (w'.heap[gb319]? = some (.cells #[.int .i64 t320, u320001, (.slice none 0 0)] 24 (0, 0))) ∧ Aside0 (Below w.heap.size w w'))
        case atStart => exact ⟨(0), (([] : List Int)), (.slice none 0 0), (by first | rfl | (simp; done) | (simp [*]; done)), H', ⟨Nat.le_refl _⟩, ⟨by (with_reducible repeat (first | apply Kd.V_alloc | apply Kd.V_drewN | apply Kd.V_drew)); exact Kd.V_mono (Kd.V_far (p := ⟨gb319, 2, none⟩) (Kd.V_far (p := ⟨gb319, 1, none⟩) (Kd.V_far (p := ⟨gb319, 0, none⟩) (Kd.V_far (p := ⟨gb319, 2, none⟩) (Kd.V_far (p := ⟨gb319, 1, none⟩) (Kd.V_far (p := ⟨gb319, 0, none⟩) (Kd.V_mono HO0_1.out (fun k_ hk => (⟨hk, hk.2⟩ : _ ∧ k_ ≠ gb319))) (fun _ hk => hk.2) (.int .i64 a0_0)) (fun _ hk => hk.2) (.slice A0_1 l0_1.length c0_1)) (fun _ hk => hk.2) (.slice A0_2 l0_2.length c0_2)) (fun _ hk => hk.2) (.int .i64 t320)) (fun _ hk => hk.2) (.slice none 0 0)) (fun _ hk => hk.2) (.slice none 0 0)) (fun _ hk => ⟨hk.1.1.1, ⟨(by simp [Value.ownBlock]), ⟨hk.1.1.2, hk.1.2⟩⟩⟩)⟩, ⟨by (with_reducible repeat (first | apply Kd.V_alloc | apply Kd.V_drewN | apply Kd.V_drew)); exact Kd.V_mono (Kd.V_far (p := ⟨gb319, 2, none⟩) (Kd.V_far (p := ⟨gb319, 1, none⟩) (Kd.V_far (p := ⟨gb319, 0, none⟩) (Kd.V_far (p := ⟨gb319, 2, none⟩) (Kd.V_far (p := ⟨gb319, 1, none⟩) (Kd.V_far (p := ⟨gb319, 0, none⟩) (Kd.V_mono HO0_2.out (fun k_ hk => (⟨hk, hk.2⟩ : _ ∧ k_ ≠ gb319))) (fun _ hk => hk.2) (.int .i64 a0_0)) (fun _ hk => hk.2) (.slice A0_1 l0_1.length c0_1)) (fun _ hk => hk.2) (.slice A0_2 l0_2.length c0_2)) (fun _ hk => hk.2) (.int .i64 t320)) (fun _ hk => hk.2) (.slice none 0 0)) (fun _ hk => hk.2) (.slice none 0 0)) (fun _ hk => ⟨hk.1.1.1, ⟨(by simp [Value.ownBlock]), ⟨hk.1.1.2, hk.1.2⟩⟩⟩)⟩, ⟨by first | exact Kd.R_nil _ _ _ _ _ | exact Kd.N_nil _ _ _ _ _ | exact Kd.V_nil _ _ _ _ _ | exact Kd.Q_nil _ _ _ _ _ | exact Kd.S_nil _ _ _ _ _⟩, ⟨by (with_reducible repeat (first | refine blk_drewN ?_ _ | refine blk_drew ?_ | refine blk_alloc ?_ _)); refine blk_far ?_ NB318_319.out _; (with_reducible repeat (first | refine blk_drewN ?_ _ | refine blk_drew ?_ | refine blk_alloc ?_ _)); refine blk_far ?_ NB318_319.out _; (with_reducible repeat (first | refine blk_drewN ?_ _ | refine blk_drew ?_ | refine blk_alloc ?_ _)); refine blk_far ?_ NB318_319.out _; (with_reducible repeat (first | refine blk_drewN ?_ _ | refine blk_drew ?_ | refine blk_alloc ?_ _)); refine blk_far ?_ NB318_319.out _; (with_reducible repeat (first | refine blk_drewN ?_ _ | refine blk_drew ?_ | refine blk_alloc ?_ _)); refine blk_far ?_ NB318_319.out _; (with_reducible repeat (first | refine blk_drewN ?_ _ | refine blk_drew ?_ | refine blk_alloc ?_ _)); refine blk_far ?_ NB318_319.out _; (with_reducible repeat (first | refine blk_drewN ?_ _ | refine blk_drew ?_ | refine blk_alloc ?_ _)); exact BK318.out⟩, ⟨by (with_reducible repeat (first | refine blk_drewN ?_ _ | refine blk_drew ?_ | refine blk_alloc ?_ _)); refine blk_put (cs := #[.int .i64 t320, .slice none 0 0, .slice A0_2 l0_2.length c0_2]) ?_ 2 _ rfl; (with_reducible repeat (first | refine blk_drewN ?_ _ | refine blk_drew ?_ | refine blk_alloc ?_ _)); refine blk_put (cs := #[.int .i64 t320, .slice A0_1 l0_1.length c0_1, .slice A0_2 l0_2.length c0_2]) ?_ 1 _ rfl; (with_reducible repeat (first | refine blk_drewN ?_ _ | refine blk_drew ?_ | refine blk_alloc ?_ _)); refine blk_put (cs := #[.int .i64 a0_0, .slice A0_1 l0_1.length c0_1, .slice A0_2 l0_2.length c0_2]) ?_ 0 _ rfl; (with_reducible repeat (first | refine blk_drewN ?_ _ | refine blk_drew ?_ | refine blk_alloc ?_ _)); refine blk_put (cs := #[.int .i64 a0_0, .slice A0_1 l0_1.length c0_1, .slice none 0 0]) ?_ 2 _ rfl; (with_reducible repeat (first | refine blk_drewN ?_ _ | refine blk_drew ?_ | refine blk_alloc ?_ _)); refine blk_put (cs := #[.int .i64 a0_0, .slice none 0 0, .slice none 0 0]) ?_ 1 _ rfl; (with_reducible repeat (first | refine blk_drewN ?_ _ | refine blk_drew ?_ | refine blk_alloc ?_ _)); refine blk_put (cs := #[.int .i64 0, .slice none 0 0, .slice none 0 0]) ?_ 0 _ rfl; (with_reducible repeat (first | refine blk_drewN ?_ _ | refine blk_drew ?_ | refine blk_alloc ?_ _)); exact BK319.out⟩, ⟨by repeat (first | (with_reducible first | exact HB.out | apply below_alloc | apply pw_below_drewN | apply below_drew1 | refine below_set ?_ GE318.out | refine below_set ?_ GE319.out) | exact HB.out)⟩⟩
        case round =>
          clear H'
          try clear c1; try clear p2; try clear c5; try clear c10; try clear c12; try clear c15; try clear hcz11_0; try clear hcz11_1; try clear hcz11_2; try clear hcz16_0; try clear hcz16_1; try clear hcz16_2; try clear hcz17_0; try clear hcz17_1; try clear hcz17_2; try clear hcz8_0; try clear hcz8_1; try clear hcz8_2; try clear hfz11_0; try clear hfz11_1; try clear hfz11_2; try clear hfz16_0; try clear hfz16_1; try clear hfz16_2; try clear hfz17_0; try clear hfz17_1; try clear hfz17_2; try clear hfz8_0; try clear hfz8_1; try clear hfz8_2
          obtain ⟨x12_1, x320001_1, u320001, rfl, HA, HK1, HO_319001, HO_319002, HO_320001, BK318, BK319, HB⟩ := hrel
          cases gk with
          | zero => exact absurd HA.out (by simp [customslaw38_ChannelSteps.l0])
          | succ k1 =>
            have H := HA.out
            clear HA
            simp only [customslaw38_ChannelSteps.l0] at H
            by_cases c18 : x12_1 < (l0_1.length : Int)
            · rw [if_pos c18] at H
              have c18b0 : decide (x12_1 < (l0_1.length : Int)) = true := decide_eq_true c18
              clear c18
              (first | rw [c18b0] | (simp only [i64_w, i32_w]; rw [c18b0]) | skip)
              by_cases c19 : x12_1 < 10
              · rw [if_pos c19] at H
                have c19b0 : decide (x12_1 < 10) = true := decide_eq_true c19
                clear c19
                have c20 : 0 ≤ x12_1 := by
                  refine Classical.byContradiction fun c20 => ?_
                  rw [if_neg c20] at H
                  exact absurd H (by simp)
                rw [if_pos c20] at H
                have c20b0 : decide (0 ≤ x12_1) = true := decide_eq_true c20
                clear c20
                replace H := Option.bind_eq_some_iff.mp H
                obtain ⟨t322, A210, H⟩ := H
                replace H : (if x320001_1.length < 17592186044416 then (customslaw38_ChannelSteps.l0 k1 a1 a2 a3 (wrap64 (x12_1 + 1)) a0_0 l0_1 l0_2 t320 (x320001_1 ++ [wrap64 (1 + t322)])) else (none)) = some true := H
                have A21 := Aside0.mk A210
                clear A210
                have c22 : x320001_1.length < 17592186044416 := by
                  refine Classical.byContradiction fun c22 => ?_
                  rw [if_neg c22] at H
                  exact absurd H (by simp)
                rw [if_pos c22] at H
                have LMc22 := Aside0.mk c22
                clear c22
                obtain ⟨y323, hy323⟩ : ∃ y_ : List Int, y_ = (x320001_1 ++ [wrap64 (1 + t322)]) := ⟨_, rfl⟩
                replace H : (customslaw38_ChannelSteps.l0 k1 a1 a2 a3 (wrap64 (x12_1 + 1)) a0_0 l0_1 l0_2 t320 y323) = some true := by first | (rw [hy323]; with_reducible exact H) | (have H2_ := (Option.bind_some _ _).symm.trans H; rw [hy323]; with_reducible exact H2_) | (have H2_ := (Option.bind_some _ _).symm.trans H; with_reducible exact H2_) | with_reducible exact H | (rw [hy323]; exact H) | exact H
                have Ny323 := Aside0.mk hy323
                clear hy323
                have H' := Aside0.mk H
                clear H
                have hnb23 := NB318_319.out
                have hnc23 := NB319_318.out
                have hcz24_0 : wr.cell? ⟨gb318, 0, none⟩ = some (.int .i64 a0_0) := (blk_cell BK318.out 0).trans rfl
                have hcz24_1 : wr.cell? ⟨gb318, 1, none⟩ = some (.slice A0_1 l0_1.length c0_1) := (blk_cell BK318.out 1).trans rfl
                have hcz24_2 : wr.cell? ⟨gb318, 2, none⟩ = some (.slice A0_2 l0_2.length c0_2) := (blk_cell BK318.out 2).trans rfl
                have hfz24_0 := blk_frozen BK318.out 0
                have hfz24_1 := blk_frozen BK318.out 1
                have hfz24_2 := blk_frozen BK318.out 2
                try go_wp2
                have n0_ := Aside0.mk (Kd.V_drew HO_319001.out)
                have n1_ := Aside0.mk (Kd.V_drew HO_319002.out)
                have n2_ := Aside0.mk (Kd.R_drew HO_320001.out)
                have n3_ := Aside0.mk (blk_drew BK318.out)
                have n4_ := Aside0.mk (blk_drew BK319.out)
                have n5_ := Aside0.mk (below_drew1 HB.out)
                clear HO_319001
                clear HO_319002
                clear HO_320001
                clear BK318
                clear BK319
                clear HB
                have HO_319001 := n0_
                have HO_319002 := n1_
                have HO_320001 := n2_
                have BK318 := n3_
                have BK319 := n4_
                have HB := n5_
                clear n0_ n1_ n2_ n3_ n4_ n5_
                have p321 : 0 ≤ (x12_1 : Int) := of_decide_eq_true (by first | (with_reducible assumption) | assumption)
                have q321 : x12_1 < (l0_1.length : Int) := of_decide_eq_true (by first | (with_reducible assumption) | assumption)
                obtain ⟨ad321, e321, hx321_0⟩ := Kd.at_int (Kd.V_reads' HO_319001.out).2.2 x12_1 p321 q321
                cases e321
                replace p321 := eq_true p321
                replace q321 := eq_true q321
                refine start_ (n := 13) (S := fun w' => w'.cell? ⟨gb319, 0, none⟩ = some (.int .i64 t320) ∧ w'.cell? ⟨gb319, 1, none⟩ = some (u320001) ∧ w'.cell? ⟨gb319, 2, none⟩ = some (.slice none 0 0) ∧ w'.cell? ⟨gb318, 0, none⟩ = some (.int .i64 a0_0) ∧ w'.cell? ⟨gb318, 1, none⟩ = some (.slice (some ad321) l0_1.length c0_1) ∧ w'.cell? ⟨gb318, 2, none⟩ = some (.slice A0_2 l0_2.length c0_2) ∧ w'.cell? (ad321.add (x12_1).toNat) = some (.int .i64 (rd l0_1 x12_1))) (ds := [10, 12]) #[false, false, false, false, false, false, false, false, false, false, false, false, false] (by kernel_rfl) rfl rfl ⟨(blk_cell BK319.out 0).trans rfl, (blk_cell BK319.out 1).trans rfl, (blk_cell BK319.out 2).trans rfl, (blk_cell BK318.out 0).trans rfl, (blk_cell BK318.out 1).trans rfl, (blk_cell BK318.out 2).trans rfl, hx321_0⟩ (fun hHeld => ?_); refine with_tabW customslaw38_ChannelSteps.tab7 customslaw38_ChannelSteps.bits7 (fun HT_ HW_ => ?_)
                generalize wr.drew = w25 at HO_319001 HO_319002 HO_320001 BK318 BK319 HB hx321_0 hHeld ⊢
                refine pure_ (i := 0) (N := some 38) (v := ?_) (a' := ?_) #[true, false, false, false, false, false, false, false, false, false, false, false, false] rfl rfl (any_of HT_.out (by kernel_rfl)) (fun _ _ _ h => h) (Or.inl ⟨by rfl, ?_⟩) ?_ ?_
                rotate_left
                · intro w'
                  go_simp
                  with_reducible rfl
                rotate_left
                · simp only [Act.put, List.setIfInBounds_toArray, List.set_cons_zero, List.set_cons_succ, i64_w, i32_w]
                  rfl
                refine pure_ (i := 2) (N := some 40) (v := ?_) (a' := ?_) #[true, false, true, false, false, false, false, false, false, false, false, false, false] rfl rfl (any_of HT_.out (by kernel_rfl)) (fun _ _ _ h => h) (Or.inl ⟨by rfl, ?_⟩) ?_ ?_
                rotate_left
                · intro w'
                  go_simp
                  with_reducible rfl
                rotate_left
                · simp only [Act.put, List.setIfInBounds_toArray, List.set_cons_zero, List.set_cons_succ, i64_w, i32_w]
                  rfl
                refine pure_ (i := 4) (N := some 42) (v := ?_) (a' := ?_) #[true, false, true, false, true, false, false, false, false, false, false, false, false] rfl rfl (any_of HT_.out (by kernel_rfl)) (fun _ _ _ h => h) (Or.inl ⟨by rfl, ?_⟩) ?_ ?_
                rotate_left
                · intro w'
                  go_simp
                  with_reducible rfl
                rotate_left
                · simp only [Act.put, List.setIfInBounds_toArray, List.set_cons_zero, List.set_cons_succ, i64_w, i32_w]
                  rfl
                refine take_ (i := 1) (N := some 39) (v := ?_) (a' := ?_) #[true, true, true, false, true, false, false, false, false, false, false, false, false] rfl rfl (take_ofW HT_.out HW_.out (by kernel_rfl)) (fun _ _ _ h => h) (Or.inl ⟨by rfl, ?_⟩) hHeld ?_ ?_
                rotate_left
                · rintro w' ⟨s0, s1, s2, s3, s4, s5, s6⟩
                  go_simp
                  with_reducible rfl
                rotate_left
                · simp only [Act.put, List.setIfInBounds_toArray, List.set_cons_zero, List.set_cons_succ, i64_w, i32_w]
                  rfl
                refine take_ (i := 3) (N := some 41) (v := ?_) (a' := ?_) #[true, true, true, true, true, false, false, false, false, false, false, false, false] rfl rfl (take_ofW HT_.out HW_.out (by kernel_rfl)) (fun _ _ _ h => h) (Or.inl ⟨by rfl, ?_⟩) hHeld ?_ ?_
                rotate_left
                · rintro w' ⟨s0, s1, s2, s3, s4, s5, s6⟩
                  go_simp
                  with_reducible rfl
                rotate_left
                · simp only [Act.put, List.setIfInBounds_toArray, List.set_cons_zero, List.set_cons_succ, i64_w, i32_w]
                  rfl
                refine pure_ (i := 5) (N := some 43) (v := ?_) (a' := ?_) #[true, true, true, true, true, true, false, false, false, false, false, false, false] rfl rfl (any_of HT_.out (by kernel_rfl)) (fun _ _ _ h => h) (Or.inl ⟨by rfl, ?_⟩) ?_ ?_
                rotate_left
                · intro w'
                  go_simp
                  with_reducible rfl
                rotate_left
                · simp only [Act.put, List.setIfInBounds_toArray, List.set_cons_zero, List.set_cons_succ, i64_w, i32_w]
                  rfl
                refine take_ (i := 6) (N := some 44) (v := ?_) (a' := ?_) #[true, true, true, true, true, true, true, false, false, false, false, false, false] rfl rfl (take_ofW HT_.out HW_.out (by kernel_rfl)) (fun _ _ _ h => h) (Or.inl ⟨by rfl, ?_⟩) hHeld ?_ ?_
                rotate_left
                · rintro w' ⟨s0, s1, s2, s3, s4, s5, s6⟩
                  go_simp
                  with_reducible rfl
                rotate_left
                · simp only [Act.put, List.setIfInBounds_toArray, List.set_cons_zero, List.set_cons_succ, i64_w, i32_w]
                  rfl
                refine one_ (i := 7) (N := some 45) #[true, true, true, true, true, true, true, true, false, false, false, false, false] rfl rfl (one_of HT_.out (by kernel_rfl)) (by decide) (fun K hK => ?_)
                refine goes_ Try.func12 (by kernel_rfl) rfl #[.int .i64 (rd l0_1 x12_1), .int .i64 9] (by rfl) rfl rfl (by (try simp only [List.map_toArray, List.map_cons, List.map_nil]); first | done | rfl | (simp only [List.length_drop, List.length_take]; rfl)) ?_
                with_reducible refine (customsmade_Within.calls (rd l0_1 x12_1) 9 t322 _ A21.out).mono ?_
                rintro e w' ⟨rfl, ⟨nd, rfl⟩⟩
                refine ⟨_, rfl, ?_⟩
                refine hK.out _ _ ⟨(blk_cell BK319.out 0).trans rfl, (blk_cell BK319.out 1).trans rfl, (blk_cell BK319.out 2).trans rfl, (blk_cell BK318.out 0).trans rfl, (blk_cell BK318.out 1).trans rfl, (blk_cell BK318.out 2).trans rfl, hHeld.2.2.2.2.2.2⟩ (fun hHeld => ?_)
                clear hK K
                refine norm_ (a' := ?_) ?_ ?_
                rotate_left
                · show Act.put _ (some 45) _ = _
                  simp only [Act.put, List.setIfInBounds_toArray, List.set_cons_zero, List.set_cons_succ, i64_w, i32_w]
                  rfl
                refine pure_ (i := 8) (N := some 46) (v := ?_) (a' := ?_) #[true, true, true, true, true, true, true, true, true, false, false, false, false] rfl rfl (any_of HT_.out (by kernel_rfl)) (fun _ _ _ h => h) (Or.inl ⟨by rfl, ?_⟩) ?_ ?_
                rotate_left
                · intro w'
                  go_simp
                  with_reducible rfl
                rotate_left
                · simp only [Act.put, List.setIfInBounds_toArray, List.set_cons_zero, List.set_cons_succ, i64_w, i32_w]
                  rfl
                refine one_ (i := 9) (N := some 47) #[true, true, true, true, true, true, true, true, true, true, false, false, false] rfl rfl (one_of HT_.out (by kernel_rfl)) (by decide) (fun K hK => ?_)
                refine value_ (w1 := ?_) (v := ?_) (by rfl) rfl ?_ ?_
                rotate_left 2
                · go_simp
                  constructor
                  · rfl
                  · rfl
                refine hK.out _ _ ⟨(blk_cell (blk_alloc BK319.out _) 0).trans rfl, (blk_cell (blk_alloc BK319.out _) 1).trans rfl, (blk_cell (blk_alloc BK319.out _) 2).trans rfl, (blk_cell (blk_alloc BK318.out _) 0).trans rfl, (blk_cell (blk_alloc BK318.out _) 1).trans rfl, (blk_cell (blk_alloc BK318.out _) 2).trans rfl, (World.cell?_alloc_lt _ _ _ (World.block_lt_of_cell? _ _ (hHeld.2.2.2.2.2.2))).trans (hHeld.2.2.2.2.2.2)⟩ (fun hHeld => ?_)
                clear hK K
                refine norm_ (a' := ?_) ?_ ?_
                rotate_left
                · show Act.put _ (some 47) _ = _
                  simp only [Act.put, List.setIfInBounds_toArray, List.set_cons_zero, List.set_cons_succ, i64_w, i32_w]
                  rfl
                refine last_ (i := 10) (N := some 48) #[true, true, true, true, true, true, true, true, true, true, true, false, false] rfl rfl (one_of HT_.out (by kernel_rfl)) (by decide) (fun K hK => ?_)
                refine Kd.R_append_step (Kd.int .i64) (w0 := w) w.heap.size (by rfl) (.tmp 39) (.tmp 47) 22 3 (.int .i64 0) 8 rfl Try.underlying22 info3 rfl (by decide) (by omega) u320001 x320001_1 (wrap64 (1 + t322)) [.int .i64 (wrap64 (1 + t322))] (fun k_ => (w.heap.size ≤ k_)) (fun _ => False) rfl rfl ?aP (fun _ hk => hk.elim) ?aF ?aO ?aB ?aS ?aL ?_
                (case aP => exact rfl)
                (case aB => exact (by exact pB HB.out))
                (case aF => exact (fun k_ hk => (Nat.le_trans (below_size (by exact pB HB.out)) hk)))
                (case aO => exact (by exact pR HO_320001.out))
                (case aS => exact (below_size (by exact pB HB.out)))
                (case aL => have := LMc22.out; omega)
                intro v324 w26 ho hb hg hat
                rw [← Ny323.out] at ho
                have n0_ := Aside0.mk (Kd.V_afterv (ok := (fun k_ => ((P0_1_ k_ ∨ P0_2_ k_) ∨ w.heap.size ≤ k_) ∧ k_ ≠ gb318 ∧ k_ ≠ gb319)) (by exact pV (Kd.V_mono HO_319001.out (fun _ hk => ⟨⟨hk.1, ⟨hk.2.2.1, hk.2.2.2⟩⟩, hk.2.1⟩))) hg hat)
                have n1_ := Aside0.mk (Kd.V_afterv (ok := (fun k_ => ((P0_1_ k_ ∨ P0_2_ k_) ∨ w.heap.size ≤ k_) ∧ k_ ≠ gb318 ∧ k_ ≠ gb319)) (by exact pV (Kd.V_mono HO_319002.out (fun _ hk => ⟨⟨hk.1, ⟨hk.2.2.1, hk.2.2.2⟩⟩, hk.2.1⟩))) hg hat)
                have n2_ := Aside0.mk (blk_grown (g := gb318) (o := .cells #[.int .i64 a0_0, .slice (some ad321) l0_1.length c0_1, .slice A0_2 l0_2.length c0_2] 24 (0, 0)) (by exact pK BK318.out) hg (Kd.R_ne HO_320001.out BK318.out (by decide)))
                have n3_ := Aside0.mk (blk_grown (g := gb319) (o := .cells #[.int .i64 t320, u320001, .slice none 0 0] 24 (0, 0)) (by exact pK BK319.out) hg (Kd.R_ne HO_320001.out BK319.out (by decide)))
                have n4_ := Aside0.mk (hb)
                have n5_ := Aside0.mk (ho)
                clear HO_319001
                clear HO_319002
                clear BK318
                clear BK319
                clear HB
                clear HO_320001
                have HO_319001 := n0_
                have HO_319002 := n1_
                have BK318 := n2_
                have BK319 := n3_
                have HB := n4_
                have HO325 := n5_
                clear n0_ n1_ n2_ n3_ n4_ n5_
                clear ho hb hg hat
                obtain ⟨Ao27, co27, eo27⟩ := Kd.R_slice HO325.out
                (first | subst eo27 | (injection eo27 with f1_ f2_ f3_; have f4_ := f1_.symm; have f5_ := f3_.symm; clear f1_ f2_ f3_; subst f4_; subst f5_))
                refine hK.out _ _ ?_
                clear hK K
                refine norm_ (a' := ?_) ?_ ?_
                rotate_left
                · show Act.put _ (some 48) _ = _
                  simp only [Act.put, List.setIfInBounds_toArray, List.set_cons_zero, List.set_cons_succ, i64_w, i32_w]
                  rfl
                refine pure_ (i := 11) (N := some 49) (v := ?_) (a' := ?_) #[true, true, true, true, true, true, true, true, true, true, true, true, false] rfl rfl (any_of HT_.out (by kernel_rfl)) (fun _ _ _ h => h) (Or.inl ⟨by rfl, ?_⟩) ?_ ?_
                rotate_left
                · intro w'
                  go_simp
                  with_reducible rfl
                rotate_left
                · simp only [Act.put, List.setIfInBounds_toArray, List.set_cons_zero, List.set_cons_succ, i64_w, i32_w]
                  rfl
                refine last_ (i := 12) (N := none) #[true, true, true, true, true, true, true, true, true, true, true, true, true] rfl rfl (one_of HT_.out (by kernel_rfl)) (by decide) (fun K hK => ?_)
                have hs28 : w26.cell? ⟨gb319, 1, none⟩ = some (u320001) := (blk_cell BK319.out 1).trans rfl
                have hfs28 := blk_frozen BK319.out 1
                have hns28_0 := NB318_319.out
                have hms28_0 := NB319_318.out
                refine skip_ (w1 := ?_) (by rfl) rfl ?_ ?_
                rotate_left
                · go_simp
                  rfl
                refine hK.out _ _ ?_
                clear hK K
                refine done_ (done_of HT_.out (by kernel_rfl)) ?_
                try go_wp2
                go_roundg k1
                case measure => have := HK1.out; omega
                case rel => exact ⟨(wrap64 (x12_1 + 1)), (y323), (.slice Ao27 y323.length co27), (by first | rfl | (simp; done) | (simp [*]; done)), H', ⟨by have := HK1.out; omega⟩, ⟨by (with_reducible repeat (first | apply Kd.V_alloc | apply Kd.V_drewN | apply Kd.V_drew)); exact Kd.V_mono (Kd.V_far (p := ⟨gb319, 1, none⟩) (Kd.V_mono HO_319001.out (fun k_ hk => (⟨hk, hk.1.2.2⟩ : _ ∧ k_ ≠ gb319))) (fun _ hk => hk.2) (.slice Ao27 y323.length co27)) (fun _ hk => ⟨hk.1.1.1, ⟨hk.1.2, ⟨hk.1.1.2.1, hk.1.1.2.2⟩⟩⟩)⟩, ⟨by (with_reducible repeat (first | apply Kd.V_alloc | apply Kd.V_drewN | apply Kd.V_drew)); exact Kd.V_mono (Kd.V_far (p := ⟨gb319, 1, none⟩) (Kd.V_mono HO_319002.out (fun k_ hk => (⟨hk, hk.1.2.2⟩ : _ ∧ k_ ≠ gb319))) (fun _ hk => hk.2) (.slice Ao27 y323.length co27)) (fun _ hk => ⟨hk.1.1.1, ⟨hk.1.2, ⟨hk.1.1.2.1, hk.1.1.2.2⟩⟩⟩)⟩, ⟨by (with_reducible repeat (first | apply Kd.R_alloc | apply Kd.R_drewN | apply Kd.R_drew)); exact Kd.R_mono (Kd.R_far (p := ⟨gb319, 1, none⟩) (Kd.R_types HO325.out BK319.out (by decide)) (fun _ hk => hk.2) (.slice Ao27 y323.length co27)) (fun _ hk => hk.1)⟩, ⟨by (with_reducible repeat (first | refine blk_drewN ?_ _ | refine blk_drew ?_ | refine blk_alloc ?_ _)); refine blk_far ?_ NB318_319.out _; (with_reducible repeat (first | refine blk_drewN ?_ _ | refine blk_drew ?_ | refine blk_alloc ?_ _)); exact BK318.out⟩, ⟨by (with_reducible repeat (first | refine blk_drewN ?_ _ | refine blk_drew ?_ | refine blk_alloc ?_ _)); refine blk_put (cs := #[.int .i64 t320, u320001, .slice none 0 0]) ?_ 1 _ rfl; (with_reducible repeat (first | refine blk_drewN ?_ _ | refine blk_drew ?_ | refine blk_alloc ?_ _)); exact BK319.out⟩, ⟨by repeat (first | (with_reducible first | exact HB.out | apply below_alloc | apply pw_below_drewN | apply below_drew1 | refine below_set ?_ GE318.out | refine below_set ?_ GE319.out) | exact HB.out)⟩⟩
              · rw [if_neg c19] at H
                have c19b0 : decide (x12_1 < 10) = false := decide_eq_false c19
                clear c19
                have H' := Aside0.mk H
                clear H
                have hnb29 := NB318_319.out
                have hnc29 := NB319_318.out
                have hcz30_0 : wr.cell? ⟨gb318, 0, none⟩ = some (.int .i64 a0_0) := (blk_cell BK318.out 0).trans rfl
                have hcz30_1 : wr.cell? ⟨gb318, 1, none⟩ = some (.slice A0_1 l0_1.length c0_1) := (blk_cell BK318.out 1).trans rfl
                have hcz30_2 : wr.cell? ⟨gb318, 2, none⟩ = some (.slice A0_2 l0_2.length c0_2) := (blk_cell BK318.out 2).trans rfl
                have hfz30_0 := blk_frozen BK318.out 0
                have hfz30_1 := blk_frozen BK318.out 1
                have hfz30_2 := blk_frozen BK318.out 2
                go_wp2
                go_meet
                case rel => exact ⟨_, (x320001_1), (u320001), H', ⟨by have := HK1.out; first | omega | exact Nat.le_refl _⟩, ⟨by exact pV HO_319001.out⟩, ⟨by exact pV HO_319002.out⟩, ⟨by exact pR HO_320001.out⟩, ⟨by exact pK BK318.out⟩, ⟨by exact pK BK319.out⟩, ⟨by exact pB HB.out⟩⟩
            · rw [if_neg c18] at H
              have c18b0 : decide (x12_1 < (l0_1.length : Int)) = false := decide_eq_false c18
              clear c18
              (first | rw [c18b0] | (simp only [i64_w, i32_w]; rw [c18b0]) | skip)
              have H' := Aside0.mk H
              clear H
              have hnb31 := NB318_319.out
              have hnc31 := NB319_318.out
              have hcz32_0 : wr.cell? ⟨gb318, 0, none⟩ = some (.int .i64 a0_0) := (blk_cell BK318.out 0).trans rfl
              have hcz32_1 : wr.cell? ⟨gb318, 1, none⟩ = some (.slice A0_1 l0_1.length c0_1) := (blk_cell BK318.out 1).trans rfl
              have hcz32_2 : wr.cell? ⟨gb318, 2, none⟩ = some (.slice A0_2 l0_2.length c0_2) := (blk_cell BK318.out 2).trans rfl
              have hfz32_0 := blk_frozen BK318.out 0
              have hfz32_1 := blk_frozen BK318.out 1
              have hfz32_2 := blk_frozen BK318.out 2
              go_wp2
              go_meet
              case rel => exact ⟨_, (x320001_1), (u320001), H', ⟨by have := HK1.out; first | omega | exact Nat.le_refl _⟩, ⟨by exact pV HO_319001.out⟩, ⟨by exact pV HO_319002.out⟩, ⟨by exact pR HO_320001.out⟩, ⟨by exact pK BK318.out⟩, ⟨by exact pK BK319.out⟩, ⟨by exact pB HB.out⟩⟩
      case rest => as_aux_lemma =>
        clear HC14
        try clear c1; try clear c2; try clear p2; try clear c3; try clear p3; try clear q3; try clear hx3; try clear c5; try clear p6; try clear c10; try clear c12; try clear c15; try clear c18; try clear c18b0; try clear c19; try clear c19b0; try clear c20; try clear c20b0; try clear c22; try clear c23; try clear c29; try clear c31; try clear p32; try clear q32; try clear hx32; try clear hcz11_0; try clear hcz11_1; try clear hcz11_2; try clear hcz16_0; try clear hcz16_1; try clear hcz16_2; try clear hcz17_0; try clear hcz17_1; try clear hcz17_2; try clear hcz24_0; try clear hcz24_1; try clear hcz24_2; try clear hcz30_0; try clear hcz30_1; try clear hcz30_2; try clear hcz32_0; try clear hcz32_1; try clear hcz32_2; try clear hcz8_0; try clear hcz8_1; try clear hcz8_2; try clear hfz11_0; try clear hfz11_1; try clear hfz11_2; try clear hfz16_0; try clear hfz16_1; try clear hfz16_2; try clear hfz17_0; try clear hfz17_1; try clear hfz17_2; try clear hfz24_0; try clear hfz24_1; try clear hfz24_2; try clear hfz30_0; try clear hfz30_1; try clear hfz30_2; try clear hfz32_0; try clear hfz32_1; try clear hfz32_2; try clear hfz8_0; try clear hfz8_1; try clear hfz8_2; try clear hx321_0; try clear p2; try clear p321; try clear q321
        obtain ⟨kq, x320001_13, u320001, HA, HJ13, HO_319001, HO_319002, HO_320001, BK318, BK319, HB⟩ := hcut
        cases kq with
        | zero => exact absurd HA.out (by simp [customslaw38_ChannelSteps.j1])
        | succ kj13 =>
          have H := HA.out
          clear HA
          simp only [customslaw38_ChannelSteps.j1] at H
          have H' := Aside0.mk H
          clear H
          go_wp2
          go_loopg [13] kj13 (fun kq v13 w' => ∃ (x13_2 : Int) (x320002_2 : List Int) (u320002 : Value), v13 = .int .i64 x13_2 ∧ Aside0 (customslaw38_ChannelSteps.l1 kq a1 a2 a3 x13_2 a0_0 l0_1 l0_2 t320 x320001_13 x320002_2 = some true) ∧ Aside0 (kq ≤ kj13) ∧ Aside0 (Kd.V (Kd.int .i64) 3 w' w.heap.size (fun k_ => ((P0_1_ k_ ∨ P0_2_ k_) ∨ w.heap.size ≤ k_) ∧ some k_ ≠ (u320001 : Value).ownBlock ∧ some k_ ≠ (u320002 : Value).ownBlock ∧ k_ ≠ gb318 ∧ k_ ≠ gb319) (.slice A0_1 l0_1.length c0_1) l0_1) ∧ Aside0 (Kd.V (Kd.int .i64) 3 w' w.heap.size (fun k_ => ((P0_1_ k_ ∨ P0_2_ k_) ∨ w.heap.size ≤ k_) ∧ some k_ ≠ (u320001 : Value).ownBlock ∧ some k_ ≠ (u320002 : Value).ownBlock ∧ k_ ≠ gb318 ∧ k_ ≠ gb319) (.slice A0_2 l0_2.length c0_2) l0_2) ∧ Aside0 (Kd.R (Kd.int .i64) 3 w' w.heap.size (fun k_ => (w.heap.size ≤ k_) ∧ some k_ ≠ (u320002 : Value).ownBlock) u320001 x320001_13) ∧ Aside0 (Kd.R (Kd.int .i64) 3 w' w.heap.size (fun k_ => (w.heap.size ≤ k_) ∧ some k_ ≠ (u320001 : Value).ownBlock) u320002 x320002_2) ∧ Aside0 (w'.heap[gb318]? = some (.cells #[.int .i64 a0_0, (.slice A0_1 l0_1.length c0_1), (.slice A0_2 l0_2.length c0_2)] 24 (0, 0))) ∧ Aside0 (w'.heap[gb319]? = some (.cells #[.int .i64 t320, u320001, u320002] 24 (0, 0))) ∧ Aside0 (Below w.heap.size w w'))
          case atStart => exact ⟨(0), (([] : List Int)), (.slice none 0 0), (by first | rfl | (simp; done) | (simp [*]; done)), H', ⟨Nat.le_refl _⟩, ⟨by exact pV (Kd.V_mono HO_319001.out (fun _ hk => ⟨hk.1, ⟨hk.2.1, ⟨(by simp [Value.ownBlock]), ⟨hk.2.2.1, hk.2.2.2⟩⟩⟩⟩))⟩, ⟨by exact pV (Kd.V_mono HO_319002.out (fun _ hk => ⟨hk.1, ⟨hk.2.1, ⟨(by simp [Value.ownBlock]), ⟨hk.2.2.1, hk.2.2.2⟩⟩⟩⟩))⟩, ⟨by exact pR (Kd.R_mono HO_320001.out (fun _ hk => ⟨hk, (by simp [Value.ownBlock])⟩))⟩, ⟨by first | exact Kd.R_nil _ _ _ _ _ | exact Kd.N_nil _ _ _ _ _ | exact Kd.V_nil _ _ _ _ _ | exact Kd.Q_nil _ _ _ _ _ | exact Kd.S_nil _ _ _ _ _⟩, ⟨by exact pK BK318.out⟩, ⟨by exact pK BK319.out⟩, ⟨by exact pB HB.out⟩⟩
          case round =>
            clear H'
            try clear c1; try clear c2; try clear p2; try clear c3; try clear p3; try clear q3; try clear hx3; try clear c5; try clear p6; try clear c10; try clear c12; try clear c15; try clear c18; try clear c18b0; try clear c19; try clear c19b0; try clear c20; try clear c20b0; try clear c22; try clear c23; try clear c29; try clear c31; try clear p32; try clear q32; try clear hx32; try clear hcz11_0; try clear hcz11_1; try clear hcz11_2; try clear hcz16_0; try clear hcz16_1; try clear hcz16_2; try clear hcz17_0; try clear hcz17_1; try clear hcz17_2; try clear hcz24_0; try clear hcz24_1; try clear hcz24_2; try clear hcz30_0; try clear hcz30_1; try clear hcz30_2; try clear hcz32_0; try clear hcz32_1; try clear hcz32_2; try clear hcz8_0; try clear hcz8_1; try clear hcz8_2; try clear hfz11_0; try clear hfz11_1; try clear hfz11_2; try clear hfz16_0; try clear hfz16_1; try clear hfz16_2; try clear hfz17_0; try clear hfz17_1; try clear hfz17_2; try clear hfz24_0; try clear hfz24_1; try clear hfz24_2; try clear hfz30_0; try clear hfz30_1; try clear hfz30_2; try clear hfz32_0; try clear hfz32_1; try clear hfz32_2; try clear hfz8_0; try clear hfz8_1; try clear hfz8_2; try clear hx321_0; try clear p2; try clear p3; try clear p32; try clear p321; try clear p6; try clear q3; try clear q32; try clear q321
            obtain ⟨x13_2, x320002_2, u320002, rfl, HA, HK2, HO_319001, HO_319002, HO_320001, HO_320002, BK318, BK319, HB⟩ := hrel
            cases gk with
            | zero => exact absurd HA.out (by simp [customslaw38_ChannelSteps.l1])
            | succ k2 =>
              have H := HA.out
              clear HA
              simp only [customslaw38_ChannelSteps.l1] at H
              by_cases c33 : x13_2 < (l0_2.length : Int)
              · rw [if_pos c33] at H
                have c33b0 : decide (x13_2 < (l0_2.length : Int)) = true := decide_eq_true c33
                clear c33
                by_cases c34 : x13_2 < 10
                · rw [if_pos c34] at H
                  have c34b0 : decide (x13_2 < 10) = true := decide_eq_true c34
                  clear c34
                  have c35 : 0 ≤ x13_2 := by
                    refine Classical.byContradiction fun c35 => ?_
                    rw [if_neg c35] at H
                    exact absurd H (by simp)
                  rw [if_pos c35] at H
                  have c35b0 : decide (0 ≤ x13_2) = true := decide_eq_true c35
                  clear c35
                  replace H := Option.bind_eq_some_iff.mp H
                  obtain ⟨t327, A360, H⟩ := H
                  replace H : (if x320002_2.length < 17592186044416 then (customslaw38_ChannelSteps.l1 k2 a1 a2 a3 (wrap64 (x13_2 + 1)) a0_0 l0_1 l0_2 t320 x320001_13 (x320002_2 ++ [t327])) else (none)) = some true := H
                  have A36 := Aside0.mk A360
                  clear A360
                  have c37 : x320002_2.length < 17592186044416 := by
                    refine Classical.byContradiction fun c37 => ?_
                    rw [if_neg c37] at H
                    exact absurd H (by simp)
                  rw [if_pos c37] at H
                  have LMc37 := Aside0.mk c37
                  clear c37
                  obtain ⟨y328, hy328⟩ : ∃ y_ : List Int, y_ = (x320002_2 ++ [t327]) := ⟨_, rfl⟩
                  replace H : (customslaw38_ChannelSteps.l1 k2 a1 a2 a3 (wrap64 (x13_2 + 1)) a0_0 l0_1 l0_2 t320 x320001_13 y328) = some true := by first | (rw [hy328]; with_reducible exact H) | (have H2_ := (Option.bind_some _ _).symm.trans H; rw [hy328]; with_reducible exact H2_) | (have H2_ := (Option.bind_some _ _).symm.trans H; with_reducible exact H2_) | with_reducible exact H | (rw [hy328]; exact H) | exact H
                  have Ny328 := Aside0.mk hy328
                  clear hy328
                  have H' := Aside0.mk H
                  clear H
                  have hnb38 := NB318_319.out
                  have hnc38 := NB319_318.out
                  have hcz39_0 : wr.cell? ⟨gb318, 0, none⟩ = some (.int .i64 a0_0) := (blk_cell BK318.out 0).trans rfl
                  have hcz39_1 : wr.cell? ⟨gb318, 1, none⟩ = some (.slice A0_1 l0_1.length c0_1) := (blk_cell BK318.out 1).trans rfl
                  have hcz39_2 : wr.cell? ⟨gb318, 2, none⟩ = some (.slice A0_2 l0_2.length c0_2) := (blk_cell BK318.out 2).trans rfl
                  have hfz39_0 := blk_frozen BK318.out 0
                  have hfz39_1 := blk_frozen BK318.out 1
                  have hfz39_2 := blk_frozen BK318.out 2
                  try go_wp2
                  have n0_ := Aside0.mk (Kd.V_drew HO_319001.out)
                  have n1_ := Aside0.mk (Kd.V_drew HO_319002.out)
                  have n2_ := Aside0.mk (Kd.R_drew HO_320001.out)
                  have n3_ := Aside0.mk (Kd.R_drew HO_320002.out)
                  have n4_ := Aside0.mk (blk_drew BK318.out)
                  have n5_ := Aside0.mk (blk_drew BK319.out)
                  have n6_ := Aside0.mk (below_drew1 HB.out)
                  clear HO_319001
                  clear HO_319002
                  clear HO_320001
                  clear HO_320002
                  clear BK318
                  clear BK319
                  clear HB
                  have HO_319001 := n0_
                  have HO_319002 := n1_
                  have HO_320001 := n2_
                  have HO_320002 := n3_
                  have BK318 := n4_
                  have BK319 := n5_
                  have HB := n6_
                  clear n0_ n1_ n2_ n3_ n4_ n5_ n6_
                  have p326 : 0 ≤ (x13_2 : Int) := of_decide_eq_true (by first | (with_reducible assumption) | assumption)
                  have q326 : x13_2 < (l0_2.length : Int) := of_decide_eq_true (by first | (with_reducible assumption) | assumption)
                  obtain ⟨ad326, e326, hx326_0⟩ := Kd.at_int (Kd.V_reads' HO_319002.out).2.2 x13_2 p326 q326
                  cases e326
                  replace p326 := eq_true p326
                  replace q326 := eq_true q326
                  refine start_ (n := 12) (S := fun w' => w'.cell? ⟨gb319, 0, none⟩ = some (.int .i64 t320) ∧ w'.cell? ⟨gb319, 1, none⟩ = some (u320001) ∧ w'.cell? ⟨gb319, 2, none⟩ = some (u320002) ∧ w'.cell? ⟨gb318, 0, none⟩ = some (.int .i64 a0_0) ∧ w'.cell? ⟨gb318, 1, none⟩ = some (.slice A0_1 l0_1.length c0_1) ∧ w'.cell? ⟨gb318, 2, none⟩ = some (.slice (some ad326) l0_2.length c0_2) ∧ w'.cell? (ad326.add (x13_2).toNat) = some (.int .i64 (rd l0_2 x13_2))) (ds := [9, 11]) #[false, false, false, false, false, false, false, false, false, false, false, false] (by kernel_rfl) rfl rfl ⟨(blk_cell BK319.out 0).trans rfl, (blk_cell BK319.out 1).trans rfl, (blk_cell BK319.out 2).trans rfl, (blk_cell BK318.out 0).trans rfl, (blk_cell BK318.out 1).trans rfl, (blk_cell BK318.out 2).trans rfl, hx326_0⟩ (fun hHeld => ?_); refine with_tabW customslaw38_ChannelSteps.tab11 customslaw38_ChannelSteps.bits11 (fun HT_ HW_ => ?_)
                  generalize wr.drew = w40 at HO_319001 HO_319002 HO_320001 HO_320002 BK318 BK319 HB hx326_0 hHeld ⊢
                  refine pure_ (i := 0) (N := some 61) (v := ?_) (a' := ?_) #[true, false, false, false, false, false, false, false, false, false, false, false] rfl rfl (any_of HT_.out (by kernel_rfl)) (fun _ _ _ h => h) (Or.inl ⟨by rfl, ?_⟩) ?_ ?_
                  rotate_left
                  · intro w'
                    go_simp
                    with_reducible rfl
                  rotate_left
                  · simp only [Act.put, List.setIfInBounds_toArray, List.set_cons_zero, List.set_cons_succ, i64_w, i32_w]
                    rfl
                  refine pure_ (i := 2) (N := some 63) (v := ?_) (a' := ?_) #[true, false, true, false, false, false, false, false, false, false, false, false] rfl rfl (any_of HT_.out (by kernel_rfl)) (fun _ _ _ h => h) (Or.inl ⟨by rfl, ?_⟩) ?_ ?_
                  rotate_left
                  · intro w'
                    go_simp
                    with_reducible rfl
                  rotate_left
                  · simp only [Act.put, List.setIfInBounds_toArray, List.set_cons_zero, List.set_cons_succ, i64_w, i32_w]
                    rfl
                  refine pure_ (i := 4) (N := some 65) (v := ?_) (a' := ?_) #[true, false, true, false, true, false, false, false, false, false, false, false] rfl rfl (any_of HT_.out (by kernel_rfl)) (fun _ _ _ h => h) (Or.inl ⟨by rfl, ?_⟩) ?_ ?_
                  rotate_left
                  · intro w'
                    go_simp
                    with_reducible rfl
                  rotate_left
                  · simp only [Act.put, List.setIfInBounds_toArray, List.set_cons_zero, List.set_cons_succ, i64_w, i32_w]
                    rfl
                  refine take_ (i := 1) (N := some 62) (v := ?_) (a' := ?_) #[true, true, true, false, true, false, false, false, false, false, false, false] rfl rfl (take_ofW HT_.out HW_.out (by kernel_rfl)) (fun _ _ _ h => h) (Or.inl ⟨by rfl, ?_⟩) hHeld ?_ ?_
                  rotate_left
                  · rintro w' ⟨s0, s1, s2, s3, s4, s5, s6⟩
                    go_simp
                    with_reducible rfl
                  rotate_left
                  · simp only [Act.put, List.setIfInBounds_toArray, List.set_cons_zero, List.set_cons_succ, i64_w, i32_w]
                    rfl
                  refine take_ (i := 3) (N := some 64) (v := ?_) (a' := ?_) #[true, true, true, true, true, false, false, false, false, false, false, false] rfl rfl (take_ofW HT_.out HW_.out (by kernel_rfl)) (fun _ _ _ h => h) (Or.inl ⟨by rfl, ?_⟩) hHeld ?_ ?_
                  rotate_left
                  · rintro w' ⟨s0, s1, s2, s3, s4, s5, s6⟩
                    go_simp
                    with_reducible rfl
                  rotate_left
                  · simp only [Act.put, List.setIfInBounds_toArray, List.set_cons_zero, List.set_cons_succ, i64_w, i32_w]
                    rfl
                  refine pure_ (i := 5) (N := some 66) (v := ?_) (a' := ?_) #[true, true, true, true, true, true, false, false, false, false, false, false] rfl rfl (any_of HT_.out (by kernel_rfl)) (fun _ _ _ h => h) (Or.inl ⟨by rfl, ?_⟩) ?_ ?_
                  rotate_left
                  · intro w'
                    go_simp
                    with_reducible rfl
                  rotate_left
                  · simp only [Act.put, List.setIfInBounds_toArray, List.set_cons_zero, List.set_cons_succ, i64_w, i32_w]
                    rfl
                  refine take_ (i := 6) (N := some 67) (v := ?_) (a' := ?_) #[true, true, true, true, true, true, true, false, false, false, false, false] rfl rfl (take_ofW HT_.out HW_.out (by kernel_rfl)) (fun _ _ _ h => h) (Or.inl ⟨by rfl, ?_⟩) hHeld ?_ ?_
                  rotate_left
                  · rintro w' ⟨s0, s1, s2, s3, s4, s5, s6⟩
                    go_simp
                    with_reducible rfl
                  rotate_left
                  · simp only [Act.put, List.setIfInBounds_toArray, List.set_cons_zero, List.set_cons_succ, i64_w, i32_w]
                    rfl
                  refine one_ (i := 7) (N := some 68) #[true, true, true, true, true, true, true, true, false, false, false, false] rfl rfl (one_of HT_.out (by kernel_rfl)) (by decide) (fun K hK => ?_)
                  refine goes_ Try.func12 (by kernel_rfl) rfl #[.int .i64 (rd l0_2 x13_2), .int .i64 9] (by rfl) rfl rfl (by (try simp only [List.map_toArray, List.map_cons, List.map_nil]); first | done | rfl | (simp only [List.length_drop, List.length_take]; rfl)) ?_
                  with_reducible refine (customsmade_Within.calls (rd l0_2 x13_2) 9 t327 _ A36.out).mono ?_
                  rintro e w' ⟨rfl, ⟨nd, rfl⟩⟩
                  refine ⟨_, rfl, ?_⟩
                  refine hK.out _ _ ⟨(blk_cell BK319.out 0).trans rfl, (blk_cell BK319.out 1).trans rfl, (blk_cell BK319.out 2).trans rfl, (blk_cell BK318.out 0).trans rfl, (blk_cell BK318.out 1).trans rfl, (blk_cell BK318.out 2).trans rfl, hHeld.2.2.2.2.2.2⟩ (fun hHeld => ?_)
                  clear hK K
                  refine norm_ (a' := ?_) ?_ ?_
                  rotate_left
                  · show Act.put _ (some 68) _ = _
                    simp only [Act.put, List.setIfInBounds_toArray, List.set_cons_zero, List.set_cons_succ, i64_w, i32_w]
                    rfl
                  refine one_ (i := 8) (N := some 69) #[true, true, true, true, true, true, true, true, true, false, false, false] rfl rfl (one_of HT_.out (by kernel_rfl)) (by decide) (fun K hK => ?_)
                  refine value_ (w1 := ?_) (v := ?_) (by rfl) rfl ?_ ?_
                  rotate_left 2
                  · go_simp
                    constructor
                    · rfl
                    · rfl
                  refine hK.out _ _ ⟨(blk_cell (blk_alloc BK319.out _) 0).trans rfl, (blk_cell (blk_alloc BK319.out _) 1).trans rfl, (blk_cell (blk_alloc BK319.out _) 2).trans rfl, (blk_cell (blk_alloc BK318.out _) 0).trans rfl, (blk_cell (blk_alloc BK318.out _) 1).trans rfl, (blk_cell (blk_alloc BK318.out _) 2).trans rfl, (World.cell?_alloc_lt _ _ _ (World.block_lt_of_cell? _ _ (hHeld.2.2.2.2.2.2))).trans (hHeld.2.2.2.2.2.2)⟩ (fun hHeld => ?_)
                  clear hK K
                  refine norm_ (a' := ?_) ?_ ?_
                  rotate_left
                  · show Act.put _ (some 69) _ = _
                    simp only [Act.put, List.setIfInBounds_toArray, List.set_cons_zero, List.set_cons_succ, i64_w, i32_w]
                    rfl
                  refine last_ (i := 9) (N := some 70) #[true, true, true, true, true, true, true, true, true, true, false, false] rfl rfl (one_of HT_.out (by kernel_rfl)) (by decide) (fun K hK => ?_)
                  refine Kd.R_append_step (Kd.int .i64) (w0 := w) w.heap.size (by rfl) (.tmp 62) (.tmp 69) 22 3 (.int .i64 0) 8 rfl Try.underlying22 info3 rfl (by decide) (by omega) u320002 x320002_2 t327 [.int .i64 t327] (fun k_ => (w.heap.size ≤ k_) ∧ some k_ ≠ (u320001 : Value).ownBlock) (fun _ => False) rfl rfl ?aP (fun _ hk => hk.elim) ?aF ?aO ?aB ?aS ?aL ?_
                  (case aP => exact rfl)
                  (case aB => exact (by exact pB HB.out))
                  (case aF => exact (fun k_ hk => ⟨(Nat.le_trans (below_size (by exact pB HB.out)) hk), Kd.fresh' (Kd.R_lt (by exact pR HO_320001.out)) k_ hk⟩))
                  (case aO => exact (by exact pR HO_320002.out))
                  (case aS => exact (below_size (by exact pB HB.out)))
                  (case aL => have := LMc37.out; omega)
                  intro v329 w41 ho hb hg hat
                  rw [← Ny328.out] at ho
                  have n0_ := Aside0.mk (Kd.V_afterv (ok := (fun k_ => ((P0_1_ k_ ∨ P0_2_ k_) ∨ w.heap.size ≤ k_) ∧ some k_ ≠ (u320001 : Value).ownBlock ∧ k_ ≠ gb318 ∧ k_ ≠ gb319)) (by exact pV (Kd.V_mono HO_319001.out (fun _ hk => ⟨⟨hk.1, ⟨hk.2.1, ⟨hk.2.2.2.1, hk.2.2.2.2⟩⟩⟩, hk.2.2.1⟩))) hg hat)
                  have n1_ := Aside0.mk (Kd.V_afterv (ok := (fun k_ => ((P0_1_ k_ ∨ P0_2_ k_) ∨ w.heap.size ≤ k_) ∧ some k_ ≠ (u320001 : Value).ownBlock ∧ k_ ≠ gb318 ∧ k_ ≠ gb319)) (by exact pV (Kd.V_mono HO_319002.out (fun _ hk => ⟨⟨hk.1, ⟨hk.2.1, ⟨hk.2.2.2.1, hk.2.2.2.2⟩⟩⟩, hk.2.2.1⟩))) hg hat)
                  have n2_ := Aside0.mk (Kd.R_after (ok := (fun k_ => (w.heap.size ≤ k_))) (by exact pR HO_320001.out) hg hat)
                  have n3_ := Aside0.mk (blk_grown (g := gb318) (o := .cells #[.int .i64 a0_0, .slice A0_1 l0_1.length c0_1, .slice (some ad326) l0_2.length c0_2] 24 (0, 0)) (by exact pK BK318.out) hg (Kd.R_ne HO_320002.out BK318.out (by decide)))
                  have n4_ := Aside0.mk (blk_grown (g := gb319) (o := .cells #[.int .i64 t320, u320001, u320002] 24 (0, 0)) (by exact pK BK319.out) hg (Kd.R_ne HO_320002.out BK319.out (by decide)))
                  have n5_ := Aside0.mk (hb)
                  have n6_ := Aside0.mk (ho)
                  clear HO_319001
                  clear HO_319002
                  clear HO_320001
                  clear BK318
                  clear BK319
                  clear HB
                  clear HO_320002
                  have HO_319001 := n0_
                  have HO_319002 := n1_
                  have HO_320001 := n2_
                  have BK318 := n3_
                  have BK319 := n4_
                  have HB := n5_
                  have HO330 := n6_
                  clear n0_ n1_ n2_ n3_ n4_ n5_ n6_
                  clear ho hb hg hat
                  obtain ⟨Ao42, co42, eo42⟩ := Kd.R_slice HO330.out
                  (first | subst eo42 | (injection eo42 with f1_ f2_ f3_; have f4_ := f1_.symm; have f5_ := f3_.symm; clear f1_ f2_ f3_; subst f4_; subst f5_))
                  refine hK.out _ _ ?_
                  clear hK K
                  refine norm_ (a' := ?_) ?_ ?_
                  rotate_left
                  · show Act.put _ (some 70) _ = _
                    simp only [Act.put, List.setIfInBounds_toArray, List.set_cons_zero, List.set_cons_succ, i64_w, i32_w]
                    rfl
                  refine pure_ (i := 10) (N := some 71) (v := ?_) (a' := ?_) #[true, true, true, true, true, true, true, true, true, true, true, false] rfl rfl (any_of HT_.out (by kernel_rfl)) (fun _ _ _ h => h) (Or.inl ⟨by rfl, ?_⟩) ?_ ?_
                  rotate_left
                  · intro w'
                    go_simp
                    with_reducible rfl
                  rotate_left
                  · simp only [Act.put, List.setIfInBounds_toArray, List.set_cons_zero, List.set_cons_succ, i64_w, i32_w]
                    rfl
                  refine last_ (i := 11) (N := none) #[true, true, true, true, true, true, true, true, true, true, true, true] rfl rfl (one_of HT_.out (by kernel_rfl)) (by decide) (fun K hK => ?_)
                  have hs43 : w41.cell? ⟨gb319, 2, none⟩ = some (u320002) := (blk_cell BK319.out 2).trans rfl
                  have hfs43 := blk_frozen BK319.out 2
                  have hns43_0 := NB318_319.out
                  have hms43_0 := NB319_318.out
                  refine skip_ (w1 := ?_) (by rfl) rfl ?_ ?_
                  rotate_left
                  · go_simp
                    rfl
                  refine hK.out _ _ ?_
                  clear hK K
                  refine done_ (done_of HT_.out (by kernel_rfl)) ?_
                  try go_wp2
                  go_roundg k2
                  case measure => have := HJ13.out; have := HK2.out; omega
                  case rel => exact ⟨(wrap64 (x13_2 + 1)), (y328), (.slice Ao42 y328.length co42), (by first | rfl | (simp; done) | (simp [*]; done)), H', ⟨by have := HJ13.out; have := HK2.out; omega⟩, ⟨by (with_reducible repeat (first | apply Kd.V_alloc | apply Kd.V_drewN | apply Kd.V_drew)); exact Kd.V_mono (Kd.V_far (p := ⟨gb319, 2, none⟩) (Kd.V_mono HO_319001.out (fun k_ hk => (⟨hk, hk.1.2.2.2⟩ : _ ∧ k_ ≠ gb319))) (fun _ hk => hk.2) (.slice Ao42 y328.length co42)) (fun _ hk => ⟨hk.1.1.1, ⟨hk.1.1.2.1, ⟨hk.1.2, ⟨hk.1.1.2.2.1, hk.1.1.2.2.2⟩⟩⟩⟩)⟩, ⟨by (with_reducible repeat (first | apply Kd.V_alloc | apply Kd.V_drewN | apply Kd.V_drew)); exact Kd.V_mono (Kd.V_far (p := ⟨gb319, 2, none⟩) (Kd.V_mono HO_319002.out (fun k_ hk => (⟨hk, hk.1.2.2.2⟩ : _ ∧ k_ ≠ gb319))) (fun _ hk => hk.2) (.slice Ao42 y328.length co42)) (fun _ hk => ⟨hk.1.1.1, ⟨hk.1.1.2.1, ⟨hk.1.2, ⟨hk.1.1.2.2.1, hk.1.1.2.2.2⟩⟩⟩⟩)⟩, ⟨by (with_reducible repeat (first | apply Kd.R_alloc | apply Kd.R_drewN | apply Kd.R_drew)); exact Kd.R_mono (Kd.R_far (p := ⟨gb319, 2, none⟩) (Kd.R_types HO_320001.out BK319.out (by decide)) (fun _ hk => hk.2) (.slice Ao42 y328.length co42)) (fun _ hk => ⟨hk.1.1, hk.1.2⟩)⟩, ⟨by (with_reducible repeat (first | apply Kd.R_alloc | apply Kd.R_drewN | apply Kd.R_drew)); exact Kd.R_mono (Kd.R_far (p := ⟨gb319, 2, none⟩) (Kd.R_types HO330.out BK319.out (by decide)) (fun _ hk => hk.2) (.slice Ao42 y328.length co42)) (fun _ hk => ⟨hk.1.1, hk.1.2⟩)⟩, ⟨by (with_reducible repeat (first | refine blk_drewN ?_ _ | refine blk_drew ?_ | refine blk_alloc ?_ _)); refine blk_far ?_ NB318_319.out _; (with_reducible repeat (first | refine blk_drewN ?_ _ | refine blk_drew ?_ | refine blk_alloc ?_ _)); exact BK318.out⟩, ⟨by (with_reducible repeat (first | refine blk_drewN ?_ _ | refine blk_drew ?_ | refine blk_alloc ?_ _)); refine blk_put (cs := #[.int .i64 t320, u320001, u320002]) ?_ 2 _ rfl; (with_reducible repeat (first | refine blk_drewN ?_ _ | refine blk_drew ?_ | refine blk_alloc ?_ _)); exact BK319.out⟩, ⟨by repeat (first | (with_reducible first | exact HB.out | apply below_alloc | apply pw_below_drewN | apply below_drew1 | refine below_set ?_ GE318.out | refine below_set ?_ GE319.out) | exact HB.out)⟩⟩
                · rw [if_neg c34] at H
                  have c34b0 : decide (x13_2 < 10) = false := decide_eq_false c34
                  clear c34
                  replace H := Option.bind_eq_some_iff.mp H
                  obtain ⟨t331, A440, H⟩ := H
                  replace H : ((customsmade_Within.f a2 11).bind fun t332 => ((customsmade_Within.f a3 9).bind fun t333 => (customslaw38_ChannelSteps.j3 k2 t331 t332 t333 t320 x320001_13 x320002_2))) = some true := H
                  have A44 := Aside0.mk A440
                  clear A440
                  replace H := Option.bind_eq_some_iff.mp H
                  obtain ⟨t332, A450, H⟩ := H
                  replace H : ((customsmade_Within.f a3 9).bind fun t333 => (customslaw38_ChannelSteps.j3 k2 t331 t332 t333 t320 x320001_13 x320002_2)) = some true := H
                  have A45 := Aside0.mk A450
                  clear A450
                  replace H := Option.bind_eq_some_iff.mp H
                  obtain ⟨t333, A460, H⟩ := H
                  replace H : (customslaw38_ChannelSteps.j3 k2 t331 t332 t333 t320 x320001_13 x320002_2) = some true := H
                  have A46 := Aside0.mk A460
                  clear A460
                  have H' := Aside0.mk H
                  clear H
                  have hnb47 := NB318_319.out
                  have hnc47 := NB319_318.out
                  have hcz48_0 : wr.cell? ⟨gb318, 0, none⟩ = some (.int .i64 a0_0) := (blk_cell BK318.out 0).trans rfl
                  have hcz48_1 : wr.cell? ⟨gb318, 1, none⟩ = some (.slice A0_1 l0_1.length c0_1) := (blk_cell BK318.out 1).trans rfl
                  have hcz48_2 : wr.cell? ⟨gb318, 2, none⟩ = some (.slice A0_2 l0_2.length c0_2) := (blk_cell BK318.out 2).trans rfl
                  have hfz48_0 := blk_frozen BK318.out 0
                  have hfz48_1 := blk_frozen BK318.out 1
                  have hfz48_2 := blk_frozen BK318.out 2
                  go_wp2_with (first | ((with_reducible refine gate_callee (f := 12) rfl ?_); refine goesL_ (some 73) rfl rfl Try.func12 (by kernel_rfl) rfl #[.int .i64 a1, .int .i64 12] rfl (by (try simp only [List.map_toArray, List.map_cons, List.map_nil]); first | done | rfl | (simp only [List.length_drop, List.length_take]; rfl)) ?_; (with_reducible refine (customsmade_Within.calls a1 12 t331 _ A44.out).mono ?_); rintro e w' ⟨rfl, ⟨nd, rfl⟩⟩; refine ⟨_, rfl, ?_⟩) | ((with_reducible refine gate_callee (f := 12) rfl ?_); refine goesL_ (some 75) rfl rfl Try.func12 (by kernel_rfl) rfl #[.int .i64 a2, .int .i64 11] rfl (by (try simp only [List.map_toArray, List.map_cons, List.map_nil]); first | done | rfl | (simp only [List.length_drop, List.length_take]; rfl)) ?_; (with_reducible refine (customsmade_Within.calls a2 11 t332 _ A45.out).mono ?_); rintro e w' ⟨rfl, ⟨nd, rfl⟩⟩; refine ⟨_, rfl, ?_⟩) | ((with_reducible refine gate_callee (f := 12) rfl ?_); refine goesL_ (some 77) rfl rfl Try.func12 (by kernel_rfl) rfl #[.int .i64 a3, .int .i64 9] rfl (by (try simp only [List.map_toArray, List.map_cons, List.map_nil]); first | done | rfl | (simp only [List.length_drop, List.length_take]; rfl)) ?_; (with_reducible refine (customsmade_Within.calls a3 9 t333 _ A46.out).mono ?_); rintro e w' ⟨rfl, ⟨nd, rfl⟩⟩; refine ⟨_, rfl, ?_⟩))
                  go_meet
                  case rel => exact ⟨_, (t331), (t332), (t333), (t320), (x320001_13), (x320002_2), (u320001), (u320002), (by first | rfl | (simp; done) | (simp [*]; done)), (by first | rfl | (simp; done) | (simp [*]; done)), (by first | rfl | (simp; done) | (simp [*]; done)), H', ⟨by have := HJ13.out; have := HK2.out; first | omega | exact Nat.le_refl _⟩, ⟨by exact pV (Kd.V_mono HO_319001.out (fun _ hk => ⟨hk.1, ⟨hk.2.2.2.1, hk.2.2.2.2⟩⟩))⟩, ⟨by exact pV (Kd.V_mono HO_319002.out (fun _ hk => ⟨hk.1, ⟨hk.2.2.2.1, hk.2.2.2.2⟩⟩))⟩, ⟨Kd.V_mono (Kd.R_V (by exact pR ((Kd.R_types (Kd.R_types HO_320001.out BK318.out (by decide)) BK319.out (by decide))))) (fun _ hk => by exact ⟨(.inr (hk.1.1.1)), ⟨hk.1.2, hk.2⟩⟩)⟩, ⟨Kd.V_mono (Kd.R_V (by exact pR ((Kd.R_types (Kd.R_types HO_320002.out BK318.out (by decide)) BK319.out (by decide))))) (fun _ hk => by exact ⟨(.inr (hk.1.1.1)), ⟨hk.1.2, hk.2⟩⟩)⟩, ⟨by exact pK BK318.out⟩, ⟨by exact pK BK319.out⟩, ⟨by exact pB HB.out⟩⟩
              · rw [if_neg c33] at H
                have c33b0 : decide (x13_2 < (l0_2.length : Int)) = false := decide_eq_false c33
                clear c33
                replace H := Option.bind_eq_some_iff.mp H
                obtain ⟨t334, A490, H⟩ := H
                replace H : ((customsmade_Within.f a2 11).bind fun t335 => ((customsmade_Within.f a3 9).bind fun t336 => (customslaw38_ChannelSteps.j3 k2 t334 t335 t336 t320 x320001_13 x320002_2))) = some true := H
                have A49 := Aside0.mk A490
                clear A490
                replace H := Option.bind_eq_some_iff.mp H
                obtain ⟨t335, A500, H⟩ := H
                replace H : ((customsmade_Within.f a3 9).bind fun t336 => (customslaw38_ChannelSteps.j3 k2 t334 t335 t336 t320 x320001_13 x320002_2)) = some true := H
                have A50 := Aside0.mk A500
                clear A500
                replace H := Option.bind_eq_some_iff.mp H
                obtain ⟨t336, A510, H⟩ := H
                replace H : (customslaw38_ChannelSteps.j3 k2 t334 t335 t336 t320 x320001_13 x320002_2) = some true := H
                have A51 := Aside0.mk A510
                clear A510
                have H' := Aside0.mk H
                clear H
                have hnb52 := NB318_319.out
                have hnc52 := NB319_318.out
                have hcz53_0 : wr.cell? ⟨gb318, 0, none⟩ = some (.int .i64 a0_0) := (blk_cell BK318.out 0).trans rfl
                have hcz53_1 : wr.cell? ⟨gb318, 1, none⟩ = some (.slice A0_1 l0_1.length c0_1) := (blk_cell BK318.out 1).trans rfl
                have hcz53_2 : wr.cell? ⟨gb318, 2, none⟩ = some (.slice A0_2 l0_2.length c0_2) := (blk_cell BK318.out 2).trans rfl
                have hfz53_0 := blk_frozen BK318.out 0
                have hfz53_1 := blk_frozen BK318.out 1
                have hfz53_2 := blk_frozen BK318.out 2
                go_wp2_with (first | ((with_reducible refine gate_callee (f := 12) rfl ?_); refine goesL_ (some 73) rfl rfl Try.func12 (by kernel_rfl) rfl #[.int .i64 a1, .int .i64 12] rfl (by (try simp only [List.map_toArray, List.map_cons, List.map_nil]); first | done | rfl | (simp only [List.length_drop, List.length_take]; rfl)) ?_; (with_reducible refine (customsmade_Within.calls a1 12 t334 _ A49.out).mono ?_); rintro e w' ⟨rfl, ⟨nd, rfl⟩⟩; refine ⟨_, rfl, ?_⟩) | ((with_reducible refine gate_callee (f := 12) rfl ?_); refine goesL_ (some 75) rfl rfl Try.func12 (by kernel_rfl) rfl #[.int .i64 a2, .int .i64 11] rfl (by (try simp only [List.map_toArray, List.map_cons, List.map_nil]); first | done | rfl | (simp only [List.length_drop, List.length_take]; rfl)) ?_; (with_reducible refine (customsmade_Within.calls a2 11 t335 _ A50.out).mono ?_); rintro e w' ⟨rfl, ⟨nd, rfl⟩⟩; refine ⟨_, rfl, ?_⟩) | ((with_reducible refine gate_callee (f := 12) rfl ?_); refine goesL_ (some 77) rfl rfl Try.func12 (by kernel_rfl) rfl #[.int .i64 a3, .int .i64 9] rfl (by (try simp only [List.map_toArray, List.map_cons, List.map_nil]); first | done | rfl | (simp only [List.length_drop, List.length_take]; rfl)) ?_; (with_reducible refine (customsmade_Within.calls a3 9 t336 _ A51.out).mono ?_); rintro e w' ⟨rfl, ⟨nd, rfl⟩⟩; refine ⟨_, rfl, ?_⟩))
                go_meet
                case rel => exact ⟨_, (t334), (t335), (t336), (t320), (x320001_13), (x320002_2), (u320001), (u320002), (by first | rfl | (simp; done) | (simp [*]; done)), (by first | rfl | (simp; done) | (simp [*]; done)), (by first | rfl | (simp; done) | (simp [*]; done)), H', ⟨by have := HJ13.out; have := HK2.out; first | omega | exact Nat.le_refl _⟩, ⟨by exact pV (Kd.V_mono HO_319001.out (fun _ hk => ⟨hk.1, ⟨hk.2.2.2.1, hk.2.2.2.2⟩⟩))⟩, ⟨by exact pV (Kd.V_mono HO_319002.out (fun _ hk => ⟨hk.1, ⟨hk.2.2.2.1, hk.2.2.2.2⟩⟩))⟩, ⟨Kd.V_mono (Kd.R_V (by exact pR ((Kd.R_types (Kd.R_types HO_320001.out BK318.out (by decide)) BK319.out (by decide))))) (fun _ hk => by exact ⟨(.inr (hk.1.1.1)), ⟨hk.1.2, hk.2⟩⟩)⟩, ⟨Kd.V_mono (Kd.R_V (by exact pR ((Kd.R_types (Kd.R_types HO_320002.out BK318.out (by decide)) BK319.out (by decide))))) (fun _ hk => by exact ⟨(.inr (hk.1.1.1)), ⟨hk.1.2, hk.2⟩⟩)⟩, ⟨by exact pK BK318.out⟩, ⟨by exact pK BK319.out⟩, ⟨by exact pB HB.out⟩⟩
  case rest => as_aux_lemma =>
    clear HC6
    try clear c1; try clear c2; try clear p2; try clear c3; try clear p3; try clear q3; try clear hx3; try clear c4; try clear c5; try clear p6; try clear c10; try clear c12; try clear c15; try clear c18; try clear c18b0; try clear c19; try clear c19b0; try clear c20; try clear c20b0; try clear c22; try clear c23; try clear c29; try clear c31; try clear p32; try clear q32; try clear hx32; try clear c33; try clear c33b0; try clear c34; try clear c34b0; try clear c35; try clear c35b0; try clear c37; try clear c38; try clear c47; try clear c52; try clear hcz11_0; try clear hcz11_1; try clear hcz11_2; try clear hcz16_0; try clear hcz16_1; try clear hcz16_2; try clear hcz17_0; try clear hcz17_1; try clear hcz17_2; try clear hcz24_0; try clear hcz24_1; try clear hcz24_2; try clear hcz30_0; try clear hcz30_1; try clear hcz30_2; try clear hcz32_0; try clear hcz32_1; try clear hcz32_2; try clear hcz39_0; try clear hcz39_1; try clear hcz39_2; try clear hcz48_0; try clear hcz48_1; try clear hcz48_2; try clear hcz53_0; try clear hcz53_1; try clear hcz53_2; try clear hcz8_0; try clear hcz8_1; try clear hcz8_2; try clear hfz11_0; try clear hfz11_1; try clear hfz11_2; try clear hfz16_0; try clear hfz16_1; try clear hfz16_2; try clear hfz17_0; try clear hfz17_1; try clear hfz17_2; try clear hfz24_0; try clear hfz24_1; try clear hfz24_2; try clear hfz30_0; try clear hfz30_1; try clear hfz30_2; try clear hfz32_0; try clear hfz32_1; try clear hfz32_2; try clear hfz39_0; try clear hfz39_1; try clear hfz39_2; try clear hfz48_0; try clear hfz48_1; try clear hfz48_2; try clear hfz53_0; try clear hfz53_1; try clear hfz53_2; try clear hfz8_0; try clear hfz8_1; try clear hfz8_2; try clear hx321_0; try clear hx326_0; try clear p2; try clear p3; try clear p32; try clear p321; try clear p326; try clear p6; try clear q3; try clear q32; try clear q321; try clear q326
    obtain ⟨kq, x1_5, x2_5, x3_5, x320000_5, x320001_5, x320002_5, u320001, u320002, rfl, rfl, rfl, HA, HJ5, HO_319001, HO_319002, HO_320001, HO_320002, BK318, BK319, HB⟩ := hcut
    cases kq with
    | zero => exact absurd HA.out (by simp [customslaw38_ChannelSteps.j3])
    | succ kj5 =>
      have H := HA.out
      clear HA
      simp only [customslaw38_ChannelSteps.j3] at H
      replace H := Option.bind_eq_some_iff.mp H
      obtain ⟨⟨t337, t338, t341, t344⟩, A540, H⟩ := H
      replace H : ((customsref33_Transmit.f kj5 x320000_5 x320001_5 x320002_5 x1_5).bind fun bt346 => (if t344 = bt346.2.2.2 then ((customsref33_SameLine.f kj5 t337 t338 t341 bt346.1 bt346.2.1 bt346.2.2.1).bind fun t355 => (customslaw38_ChannelSteps.j4 kj5 x1_5 x2_5 x3_5 (!t355) x320000_5 x320001_5 x320002_5)) else (customslaw38_ChannelSteps.j4 kj5 x1_5 x2_5 x3_5 true x320000_5 x320001_5 x320002_5))) = some true := H
      have A54 := Aside0.mk A540
      clear A540
      replace H := Option.bind_eq_some_iff.mp H
      obtain ⟨⟨t346, t347, t350, t353⟩, A550, H⟩ := H
      replace H : (if t344 = t353 then ((customsref33_SameLine.f kj5 t337 t338 t341 t346 t347 t350).bind fun t355 => (customslaw38_ChannelSteps.j4 kj5 x1_5 x2_5 x3_5 (!t355) x320000_5 x320001_5 x320002_5)) else (customslaw38_ChannelSteps.j4 kj5 x1_5 x2_5 x3_5 true x320000_5 x320001_5 x320002_5)) = some true := H
      have A55 := Aside0.mk A550
      clear A550
      have HC56 := Aside0.mk H
      clear H
      have hnb57 := NB319_318.out
      have hnc57 := NB318_319.out
      have hcz58_0 : wc.cell? ⟨gb319, 0, none⟩ = some (.int .i64 x320000_5) := (blk_cell BK319.out 0).trans rfl
      have hcz58_1 : wc.cell? ⟨gb319, 1, none⟩ = some (u320001) := (blk_cell BK319.out 1).trans rfl
      have hcz58_2 : wc.cell? ⟨gb319, 2, none⟩ = some (u320002) := (blk_cell BK319.out 2).trans rfl
      have hfz58_0 := blk_frozen BK319.out 0
      have hfz58_1 := blk_frozen BK319.out 1
      have hfz58_2 := blk_frozen BK319.out 2
      obtain ⟨Ao59, co59, eo59⟩ := Kd.V_slice HO_320001.out
      subst eo59
      obtain ⟨Ao60, co60, eo60⟩ := Kd.V_slice HO_320002.out
      subst eo60
      go_upto_region 15 with (first | ((with_reducible refine gate_callee (f := 13) rfl ?_); refine goesL_ (some 81) rfl rfl Try.func13 (by kernel_rfl) rfl #[.agg #[.int .i64 x320000_5, .slice Ao59 x320001_5.length co59, .slice Ao60 x320002_5.length co60], .int .i64 x1_5] rfl (by (try simp only [List.map_toArray, List.map_cons, List.map_nil]); first | done | rfl | (simp only [List.length_drop, List.length_take]; rfl)) ?_; (with_reducible refine (channel_Transmit.calls kj5 x320000_5 _ _ x320001_5 _ _ x320002_5 x1_5 t337 t338 t341 t344 _ ?side1 ?side2 ?side3 ?side4 A54.out).mono ?_); (case side1 => exact pC (Kd.V_reads' HO_320001.out).2.2); (case side2 => exact (Kd.V_reads' HO_320001.out).2.1); (case side3 => exact pC (Kd.V_reads' HO_320002.out).2.2); (case side4 => exact (Kd.V_reads' HO_320002.out).2.1); rintro e w61 ⟨v339, v342, rfl, ho0, ho1, hb⟩; refine ⟨_, rfl, ?_⟩; have n0_ := Aside0.mk (Kd.V_mono (Kd.V_told (Kd.V_told (Kd.V_old (by exact pV HO_319001.out) hb) (Kd.R_base ho0)) (Kd.R_base ho1)) (fun _ h_ => h_.1)); have n1_ := Aside0.mk (Kd.V_mono (Kd.V_told (Kd.V_told (Kd.V_old (by exact pV HO_319002.out) hb) (Kd.R_base ho0)) (Kd.R_base ho1)) (fun _ h_ => h_.1)); have n2_ := Aside0.mk (Kd.V_mono (Kd.V_told (Kd.V_told (Kd.V_old (by exact pV HO_320001.out) hb) (Kd.R_base ho0)) (Kd.R_base ho1)) (fun _ h_ => h_.1)); have n3_ := Aside0.mk (Kd.V_mono (Kd.V_told (Kd.V_told (Kd.V_old (by exact pV HO_320002.out) hb) (Kd.R_base ho0)) (Kd.R_base ho1)) (fun _ h_ => h_.1)); have n4_ := Aside0.mk (Kd.R_lower (Kd.R_newM (M := fun k_ => (w.heap.size ≤ k_)) ho0 (below_size (by exact pB HB.out)) (fun k_ h_ => h_)) (below_size (by exact pB HB.out))); have n5_ := Aside0.mk (Kd.R_lower (Kd.R_newM (M := fun k_ => (w.heap.size ≤ k_)) ho1 (below_size (by exact pB HB.out)) (fun k_ h_ => h_)) (below_size (by exact pB HB.out))); have n6_ := Aside0.mk (blk_below (g := gb318) (o := .cells #[.int .i64 a0_0, .slice A0_1 l0_1.length c0_1, .slice A0_2 l0_2.length c0_2] 24 (0, 0)) (by exact pK BK318.out) hb); have n7_ := Aside0.mk (blk_below (g := gb319) (o := .cells #[.int .i64 x320000_5, .slice Ao59 x320001_5.length co59, .slice Ao60 x320002_5.length co60] 24 (0, 0)) (by exact pK BK319.out) hb); have n8_ := Aside0.mk (below_step (by exact pB HB.out) hb); clear HO_319001; clear HO_319002; clear HO_320001; clear HO_320002; clear BK318; clear BK319; clear HB; have HO_319001 := n0_; have HO_319002 := n1_; have HO_320001 := n2_; have HO_320002 := n3_; have HO340 := n4_; have HO343 := n5_; have BK318 := n6_; have BK319 := n7_; have HB := n8_; clear n0_ n1_ n2_ n3_ n4_ n5_ n6_ n7_ n8_; (try clear hb); (try clear hb2); (try clear hk); (try clear hi); (try clear ho0); (try clear ho1)) | ((with_reducible refine gate_dst (N := 14) rfl ?_); refine box_event ?hg (N := 14) ?hd (cs := #[.int .i64 0, .slice none 0 0, .slice none 0 0]) (t := 24) ?hr ?_; (case hd => rfl); (case hg => rfl); (case hr => first | (go_simp; done) | (go_simp; rfl)); intro gb345 hg w62 hbox hb; have n0_ := Aside0.mk (Kd.V_below (Kd.V_elderB (by exact pV HO_319001.out) gb345 (Nat.le_of_eq hg.symm)) hb); have n1_ := Aside0.mk (Kd.V_below (Kd.V_elderB (by exact pV HO_319002.out) gb345 (Nat.le_of_eq hg.symm)) hb); have n2_ := Aside0.mk (Kd.V_below (Kd.V_elderB (by exact pV HO_320001.out) gb345 (Nat.le_of_eq hg.symm)) hb); have n3_ := Aside0.mk (Kd.V_below (Kd.V_elderB (by exact pV HO_320002.out) gb345 (Nat.le_of_eq hg.symm)) hb); have n4_ := Aside0.mk (Kd.R_below (by exact pR HO340.out) hb); have n5_ := Aside0.mk (Kd.R_below (by exact pR HO343.out) hb); have n6_ := Aside0.mk (blk_below (g := gb318) (o := .cells #[.int .i64 a0_0, .slice A0_1 l0_1.length c0_1, .slice A0_2 l0_2.length c0_2] 24 (0, 0)) (by exact pK BK318.out) hb); have n7_ := Aside0.mk (blk_below (g := gb319) (o := .cells #[.int .i64 x320000_5, .slice Ao59 x320001_5.length co59, .slice Ao60 x320002_5.length co60] 24 (0, 0)) (by exact pK BK319.out) hb); have n8_ := Aside0.mk (below_step (by exact pB HB.out) hb); have n9_ := Aside0.mk (hbox); have n10_ := Aside0.mk ((by rw [hg]; exact (below_size (by exact pB HB.out)) : w.heap.size ≤ gb345)); have n11_ := Aside0.mk ((by rw [hg]; exact (below_size (by exact pB HB.out)) : w.heap.size ≤ gb345)); have n12_ := Aside0.mk ((by rw [hg]; exact Nat.ne_of_lt (blk_lt (g := gb318) (o := .cells #[.int .i64 a0_0, .slice A0_1 l0_1.length c0_1, .slice A0_2 l0_2.length c0_2] 24 (0, 0)) (by exact pK BK318.out)) : gb318 ≠ gb345)); have n13_ := Aside0.mk ((by rw [hg]; exact Nat.ne_of_gt (blk_lt (g := gb318) (o := .cells #[.int .i64 a0_0, .slice A0_1 l0_1.length c0_1, .slice A0_2 l0_2.length c0_2] 24 (0, 0)) (by exact pK BK318.out)) : gb345 ≠ gb318)); have n14_ := Aside0.mk ((by rw [hg]; exact Nat.ne_of_lt (blk_lt (g := gb319) (o := .cells #[.int .i64 x320000_5, .slice Ao59 x320001_5.length co59, .slice Ao60 x320002_5.length co60] 24 (0, 0)) (by exact pK BK319.out)) : gb319 ≠ gb345)); have n15_ := Aside0.mk ((by rw [hg]; exact Nat.ne_of_gt (blk_lt (g := gb319) (o := .cells #[.int .i64 x320000_5, .slice Ao59 x320001_5.length co59, .slice Ao60 x320002_5.length co60] 24 (0, 0)) (by exact pK BK319.out)) : gb345 ≠ gb319)); clear HO_319001; clear HO_319002; clear HO_320001; clear HO_320002; clear HO340; clear HO343; clear BK318; clear BK319; clear HB; have HO_319001 := n0_; have HO_319002 := n1_; have HO_320001 := n2_; have HO_320002 := n3_; have HO340 := n4_; have HO343 := n5_; have BK318 := n6_; have BK319 := n7_; have HB := n8_; have BK345 := n9_; have GW345 := n10_; have GE345 := n11_; have NB318_345 := n12_; have NB345_318 := n13_; have NB319_345 := n14_; have NB345_319 := n15_; clear n0_ n1_ n2_ n3_ n4_ n5_ n6_ n7_ n8_ n9_ n10_ n11_ n12_ n13_ n14_ n15_; clear hb hbox hg; have hnb63 := NB345_318.out; have hnc63 := NB318_345.out; have hnb64 := NB345_319.out; have hnc64 := NB319_345.out; have hcz65_0 : w62.cell? ⟨gb345, 0, none⟩ = some (.int .i64 0) := (blk_cell BK345.out 0).trans rfl; have hcz65_1 : w62.cell? ⟨gb345, 1, none⟩ = some (.slice none 0 0) := (blk_cell BK345.out 1).trans rfl; have hcz65_2 : w62.cell? ⟨gb345, 2, none⟩ = some (.slice none 0 0) := (blk_cell BK345.out 2).trans rfl; have hfz65_0 := blk_frozen BK345.out 0; have hfz65_1 := blk_frozen BK345.out 1; have hfz65_2 := blk_frozen BK345.out 2; obtain ⟨Ao66, co66, eo66⟩ := Kd.R_slice HO340.out; subst eo66; obtain ⟨Ao67, co67, eo67⟩ := Kd.R_slice HO343.out; subst eo67) | ((with_reducible refine gate_store (t := 24) (p := 14) rfl ?_); refine store_event (t := 24) (p := 14) (v := ?vo_w68) (w1 := (((w62.setCell ⟨gb345, 0, none⟩ (.int .i64 t337)).setCell ⟨gb345, 1, none⟩ (.slice Ao66 t338.length co66)).setCell ⟨gb345, 2, none⟩ (.slice Ao67 t341.length co67))) ?hg ?ho ?hn ?hr ?_; (case ho => rfl); (case hg => rfl); (case hn => rfl); (case hr => first | (go_simp; done) | (go_simp; rfl)); intro w68 hw; have n0_ : Aside0 (Kd.V (Kd.int .i64) 3 w68 w.heap.size (fun k_ => ((P0_1_ k_ ∨ P0_2_ k_) ∨ w.heap.size ≤ k_) ∧ some k_ ≠ (.slice Ao66 t338.length co66 : Value).ownBlock ∧ some k_ ≠ (.slice Ao67 t341.length co67 : Value).ownBlock ∧ k_ ≠ gb318 ∧ k_ ≠ gb319 ∧ k_ ≠ gb345) (.slice A0_1 l0_1.length c0_1) l0_1) := ⟨(by rw [hw]; exact (by (with_reducible repeat (first | apply Kd.V_alloc | apply Kd.V_drewN | apply Kd.V_drew)); exact Kd.V_mono (Kd.V_far (p := ⟨gb345, 2, none⟩) (Kd.V_far (p := ⟨gb345, 1, none⟩) (Kd.V_far (p := ⟨gb345, 0, none⟩) (Kd.V_mono HO_319001.out (fun k_ hk => (⟨hk, hk.2⟩ : _ ∧ k_ ≠ gb345))) (fun _ hk => hk.2) (.int .i64 t337)) (fun _ hk => hk.2) (.slice Ao66 t338.length co66)) (fun _ hk => hk.2) (.slice Ao67 t341.length co67)) (fun _ hk => ⟨hk.1.1.1.1.1, ⟨hk.1.1.1.2, ⟨hk.1.1.2, ⟨hk.1.1.1.1.2.1, ⟨hk.1.1.1.1.2.2, hk.1.2⟩⟩⟩⟩⟩)))⟩; have n1_ : Aside0 (Kd.V (Kd.int .i64) 3 w68 w.heap.size (fun k_ => ((P0_1_ k_ ∨ P0_2_ k_) ∨ w.heap.size ≤ k_) ∧ some k_ ≠ (.slice Ao66 t338.length co66 : Value).ownBlock ∧ some k_ ≠ (.slice Ao67 t341.length co67 : Value).ownBlock ∧ k_ ≠ gb318 ∧ k_ ≠ gb319 ∧ k_ ≠ gb345) (.slice A0_2 l0_2.length c0_2) l0_2) := ⟨(by rw [hw]; exact (by (with_reducible repeat (first | apply Kd.V_alloc | apply Kd.V_drewN | apply Kd.V_drew)); exact Kd.V_mono (Kd.V_far (p := ⟨gb345, 2, none⟩) (Kd.V_far (p := ⟨gb345, 1, none⟩) (Kd.V_far (p := ⟨gb345, 0, none⟩) (Kd.V_mono HO_319002.out (fun k_ hk => (⟨hk, hk.2⟩ : _ ∧ k_ ≠ gb345))) (fun _ hk => hk.2) (.int .i64 t337)) (fun _ hk => hk.2) (.slice Ao66 t338.length co66)) (fun _ hk => hk.2) (.slice Ao67 t341.length co67)) (fun _ hk => ⟨hk.1.1.1.1.1, ⟨hk.1.1.1.2, ⟨hk.1.1.2, ⟨hk.1.1.1.1.2.1, ⟨hk.1.1.1.1.2.2, hk.1.2⟩⟩⟩⟩⟩)))⟩; have n2_ : Aside0 (Kd.V (Kd.int .i64) 3 w68 w.heap.size (fun k_ => ((P0_1_ k_ ∨ P0_2_ k_) ∨ w.heap.size ≤ k_) ∧ some k_ ≠ (.slice Ao66 t338.length co66 : Value).ownBlock ∧ some k_ ≠ (.slice Ao67 t341.length co67 : Value).ownBlock ∧ k_ ≠ gb318 ∧ k_ ≠ gb319 ∧ k_ ≠ gb345) (.slice Ao59 x320001_5.length co59) x320001_5) := ⟨(by rw [hw]; exact (by (with_reducible repeat (first | apply Kd.V_alloc | apply Kd.V_drewN | apply Kd.V_drew)); exact Kd.V_mono (Kd.V_far (p := ⟨gb345, 2, none⟩) (Kd.V_far (p := ⟨gb345, 1, none⟩) (Kd.V_far (p := ⟨gb345, 0, none⟩) (Kd.V_mono HO_320001.out (fun k_ hk => (⟨hk, hk.2⟩ : _ ∧ k_ ≠ gb345))) (fun _ hk => hk.2) (.int .i64 t337)) (fun _ hk => hk.2) (.slice Ao66 t338.length co66)) (fun _ hk => hk.2) (.slice Ao67 t341.length co67)) (fun _ hk => ⟨hk.1.1.1.1.1, ⟨hk.1.1.1.2, ⟨hk.1.1.2, ⟨hk.1.1.1.1.2.1, ⟨hk.1.1.1.1.2.2, hk.1.2⟩⟩⟩⟩⟩)))⟩; have n3_ : Aside0 (Kd.V (Kd.int .i64) 3 w68 w.heap.size (fun k_ => ((P0_1_ k_ ∨ P0_2_ k_) ∨ w.heap.size ≤ k_) ∧ some k_ ≠ (.slice Ao66 t338.length co66 : Value).ownBlock ∧ some k_ ≠ (.slice Ao67 t341.length co67 : Value).ownBlock ∧ k_ ≠ gb318 ∧ k_ ≠ gb319 ∧ k_ ≠ gb345) (.slice Ao60 x320002_5.length co60) x320002_5) := ⟨(by rw [hw]; exact (by (with_reducible repeat (first | apply Kd.V_alloc | apply Kd.V_drewN | apply Kd.V_drew)); exact Kd.V_mono (Kd.V_far (p := ⟨gb345, 2, none⟩) (Kd.V_far (p := ⟨gb345, 1, none⟩) (Kd.V_far (p := ⟨gb345, 0, none⟩) (Kd.V_mono HO_320002.out (fun k_ hk => (⟨hk, hk.2⟩ : _ ∧ k_ ≠ gb345))) (fun _ hk => hk.2) (.int .i64 t337)) (fun _ hk => hk.2) (.slice Ao66 t338.length co66)) (fun _ hk => hk.2) (.slice Ao67 t341.length co67)) (fun _ hk => ⟨hk.1.1.1.1.1, ⟨hk.1.1.1.2, ⟨hk.1.1.2, ⟨hk.1.1.1.1.2.1, ⟨hk.1.1.1.1.2.2, hk.1.2⟩⟩⟩⟩⟩)))⟩; have n4_ : Aside0 (Kd.R (Kd.int .i64) 3 w68 w.heap.size (fun k_ => (w.heap.size ≤ k_) ∧ some k_ ≠ (.slice Ao67 t341.length co67 : Value).ownBlock) (.slice Ao66 t338.length co66) t338) := ⟨(by rw [hw]; exact (by (with_reducible repeat (first | apply Kd.R_alloc | apply Kd.R_drewN | apply Kd.R_drew)); exact Kd.R_mono (Kd.R_far (p := ⟨gb345, 2, none⟩) (Kd.R_far (p := ⟨gb345, 1, none⟩) (Kd.R_far (p := ⟨gb345, 0, none⟩) (Kd.R_types HO340.out BK345.out (by decide)) (fun _ hk => hk.2) (.int .i64 t337)) (fun _ hk => hk.2) (.slice Ao66 t338.length co66)) (fun _ hk => hk.2) (.slice Ao67 t341.length co67)) (fun _ hk => ⟨hk.1.1, hk.1.2⟩)))⟩; have n5_ : Aside0 (Kd.R (Kd.int .i64) 3 w68 w.heap.size (fun k_ => (w.heap.size ≤ k_) ∧ some k_ ≠ (.slice Ao66 t338.length co66 : Value).ownBlock) (.slice Ao67 t341.length co67) t341) := ⟨(by rw [hw]; exact (by (with_reducible repeat (first | apply Kd.R_alloc | apply Kd.R_drewN | apply Kd.R_drew)); exact Kd.R_mono (Kd.R_far (p := ⟨gb345, 2, none⟩) (Kd.R_far (p := ⟨gb345, 1, none⟩) (Kd.R_far (p := ⟨gb345, 0, none⟩) (Kd.R_types HO343.out BK345.out (by decide)) (fun _ hk => hk.2) (.int .i64 t337)) (fun _ hk => hk.2) (.slice Ao66 t338.length co66)) (fun _ hk => hk.2) (.slice Ao67 t341.length co67)) (fun _ hk => ⟨hk.1.1, hk.1.2⟩)))⟩; have n6_ : Aside0 (w68.heap[gb318]? = some (.cells #[.int .i64 a0_0, .slice A0_1 l0_1.length c0_1, .slice A0_2 l0_2.length c0_2] 24 (0, 0))) := ⟨(by rw [hw]; exact (by (with_reducible repeat (first | refine blk_drewN ?_ _ | refine blk_drew ?_ | refine blk_alloc ?_ _)); refine blk_far ?_ NB318_345.out _; (with_reducible repeat (first | refine blk_drewN ?_ _ | refine blk_drew ?_ | refine blk_alloc ?_ _)); refine blk_far ?_ NB318_345.out _; (with_reducible repeat (first | refine blk_drewN ?_ _ | refine blk_drew ?_ | refine blk_alloc ?_ _)); refine blk_far ?_ NB318_345.out _; (with_reducible repeat (first | refine blk_drewN ?_ _ | refine blk_drew ?_ | refine blk_alloc ?_ _)); exact BK318.out))⟩; have n7_ : Aside0 (w68.heap[gb319]? = some (.cells #[.int .i64 x320000_5, .slice Ao59 x320001_5.length co59, .slice Ao60 x320002_5.length co60] 24 (0, 0))) := ⟨(by rw [hw]; exact (by (with_reducible repeat (first | refine blk_drewN ?_ _ | refine blk_drew ?_ | refine blk_alloc ?_ _)); refine blk_far ?_ NB319_345.out _; (with_reducible repeat (first | refine blk_drewN ?_ _ | refine blk_drew ?_ | refine blk_alloc ?_ _)); refine blk_far ?_ NB319_345.out _; (with_reducible repeat (first | refine blk_drewN ?_ _ | refine blk_drew ?_ | refine blk_alloc ?_ _)); refine blk_far ?_ NB319_345.out _; (with_reducible repeat (first | refine blk_drewN ?_ _ | refine blk_drew ?_ | refine blk_alloc ?_ _)); exact BK319.out))⟩; have n8_ : Aside0 (w68.heap[gb345]? = some (.cells #[.int .i64 t337, .slice Ao66 t338.length co66, .slice Ao67 t341.length co67] 24 (0, 0))) := ⟨(by rw [hw]; exact (by (with_reducible repeat (first | refine blk_drewN ?_ _ | refine blk_drew ?_ | refine blk_alloc ?_ _)); refine blk_put (cs := #[.int .i64 t337, .slice Ao66 t338.length co66, .slice none 0 0]) ?_ 2 _ rfl; (with_reducible repeat (first | refine blk_drewN ?_ _ | refine blk_drew ?_ | refine blk_alloc ?_ _)); refine blk_put (cs := #[.int .i64 t337, .slice none 0 0, .slice none 0 0]) ?_ 1 _ rfl; (with_reducible repeat (first | refine blk_drewN ?_ _ | refine blk_drew ?_ | refine blk_alloc ?_ _)); refine blk_put (cs := #[.int .i64 0, .slice none 0 0, .slice none 0 0]) ?_ 0 _ rfl; (with_reducible repeat (first | refine blk_drewN ?_ _ | refine blk_drew ?_ | refine blk_alloc ?_ _)); exact BK345.out))⟩; have n9_ : Aside0 (Below w.heap.size w w68) := ⟨(by rw [hw]; exact (by repeat (first | (with_reducible first | exact HB.out | apply below_alloc | apply pw_below_drewN | apply below_drew1 | refine below_set ?_ GE318.out | refine below_set ?_ GE319.out | refine below_set ?_ GE345.out) | exact HB.out)))⟩; clear hw; clear HO_319001; clear HO_319002; clear HO_320001; clear HO_320002; clear HO340; clear HO343; clear BK318; clear BK319; clear BK345; clear HB; have HO_319001 := n0_; have HO_319002 := n1_; have HO_320001 := n2_; have HO_320002 := n3_; have HO340 := n4_; have HO343 := n5_; have BK318 := n6_; have BK319 := n7_; have BK345 := n8_; have HB := n9_; clear n0_ n1_ n2_ n3_ n4_ n5_ n6_ n7_ n8_ n9_; have hcz69_0 : w68.cell? ⟨gb319, 0, none⟩ = some (.int .i64 x320000_5) := (blk_cell BK319.out 0).trans rfl; have hcz69_1 : w68.cell? ⟨gb319, 1, none⟩ = some (.slice Ao59 x320001_5.length co59) := (blk_cell BK319.out 1).trans rfl; have hcz69_2 : w68.cell? ⟨gb319, 2, none⟩ = some (.slice Ao60 x320002_5.length co60) := (blk_cell BK319.out 2).trans rfl; have hfz69_0 := blk_frozen BK319.out 0; have hfz69_1 := blk_frozen BK319.out 1; have hfz69_2 := blk_frozen BK319.out 2) | ((with_reducible refine gate_callee (f := 14) rfl ?_); refine goesL_ (some 87) rfl rfl Try.func14 (by kernel_rfl) rfl #[.agg #[.int .i64 x320000_5, .slice Ao59 x320001_5.length co59, .slice Ao60 x320002_5.length co60], .int .i64 x1_5] rfl (by (try simp only [List.map_toArray, List.map_cons, List.map_nil]); first | done | rfl | (simp only [List.length_drop, List.length_take]; rfl)) ?_; (with_reducible refine (customsref33_Transmit.calls kj5 x320000_5 _ _ x320001_5 (fun k_ => (((P0_1_ k_ ∨ P0_2_ k_) ∨ w.heap.size ≤ k_) ∧ (some k_ ≠ (.slice Ao66 t338.length co66 : Value).ownBlock ∧ (some k_ ≠ (.slice Ao67 t341.length co67 : Value).ownBlock ∧ (k_ ≠ gb318 ∧ (k_ ≠ gb319 ∧ k_ ≠ gb345)))))) _ _ x320002_5 x1_5 t346 t347 t350 t353 _ ?side1 ?side2 ?side3 A55.out).mono ?_); (case side1 => exact pC (Kd.V_reads' HO_320001.out).2.2); (case side2 => exact (Kd.V_reads' HO_320001.out).2.1); (case side3 => exact HO_320002.out); rintro e w70 ⟨v348, v351, rfl, ho0, ho1, hb⟩; refine ⟨_, rfl, ?_⟩; have n0_ := Aside0.mk (Kd.V_elder' (by exact pV HO_319001.out) (Kd.R_base ho0) hb); have n1_ := Aside0.mk (Kd.V_elder' (by exact pV HO_319002.out) (Kd.R_base ho0) hb); have n2_ := Aside0.mk (Kd.V_elder' (by exact pV HO_320001.out) (Kd.R_base ho0) hb); have n3_ := Aside0.mk (Kd.V_elder' (by exact pV HO_320002.out) (Kd.R_base ho0) hb); have n4_ := Aside0.mk (Kd.R_elder' (by exact pR HO340.out) (Kd.R_base ho0) hb); have n5_ := Aside0.mk (Kd.R_elder' (by exact pR HO343.out) (Kd.R_base ho0) hb); have n6_ := Aside0.mk (Kd.R_lower (Kd.R_new' (Kd.R_new' (Kd.R_newM (M := fun k_ => (w.heap.size ≤ k_)) (Kd.R_mono (ok' := fun k_ => True) ho0 (fun _ hk_ => trivial)) (below_size (by exact pB HB.out)) (fun k_ h_ => h_)) (Kd.R_lt (by exact pR HO340.out))) (Kd.R_lt (by exact pR HO343.out))) (below_size (by exact pB HB.out))); have n7_ := Aside0.mk (Kd.V_lower (Kd.V_mono (ok' := fun k_ => ((P0_1_ k_ ∨ P0_2_ k_) ∨ w.heap.size ≤ k_) ∧ some k_ ≠ (v348 : Value).ownBlock ∧ some k_ ≠ (.slice Ao66 t338.length co66 : Value).ownBlock ∧ some k_ ≠ (.slice Ao67 t341.length co67 : Value).ownBlock ∧ k_ ≠ gb318 ∧ k_ ≠ gb319 ∧ k_ ≠ gb345) ho1 (fun k_ hk_ => ⟨Or.elim hk_.1 (fun hs_ => hs_.1) (fun hn_ => (.inr (Nat.le_trans (below_size (by exact pB HB.out)) hn_))), hk_.2, Or.elim hk_.1 (fun hs_ => hs_.2.1) (fun hn_ => (Kd.fresh' (Kd.R_lt (by exact pR HO340.out)) k_ hn_)), Or.elim hk_.1 (fun hs_ => hs_.2.2.1) (fun hn_ => (Kd.fresh' (Kd.R_lt (by exact pR HO343.out)) k_ hn_)), Or.elim hk_.1 (fun hs_ => hs_.2.2.2.1) (fun hn_ => (Kd.freshB (g := gb318) (o := .cells #[.int .i64 a0_0, .slice A0_1 l0_1.length c0_1, .slice A0_2 l0_2.length c0_2] 24 (0, 0)) (by exact pK BK318.out) k_ hn_)), Or.elim hk_.1 (fun hs_ => hs_.2.2.2.2.1) (fun hn_ => (Kd.freshB (g := gb319) (o := .cells #[.int .i64 x320000_5, .slice Ao59 x320001_5.length co59, .slice Ao60 x320002_5.length co60] 24 (0, 0)) (by exact pK BK319.out) k_ hn_)), Or.elim hk_.1 (fun hs_ => hs_.2.2.2.2.2) (fun hn_ => (Kd.freshB (g := gb345) (o := .cells #[.int .i64 t337, .slice Ao66 t338.length co66, .slice Ao67 t341.length co67] 24 (0, 0)) (by exact pK BK345.out) k_ hn_))⟩)) (below_size (by exact pB HB.out))); have n8_ := Aside0.mk (blk_below (g := gb318) (o := .cells #[.int .i64 a0_0, .slice A0_1 l0_1.length c0_1, .slice A0_2 l0_2.length c0_2] 24 (0, 0)) (by exact pK BK318.out) hb); have n9_ := Aside0.mk (blk_below (g := gb319) (o := .cells #[.int .i64 x320000_5, .slice Ao59 x320001_5.length co59, .slice Ao60 x320002_5.length co60] 24 (0, 0)) (by exact pK BK319.out) hb); have n10_ := Aside0.mk (blk_below (g := gb345) (o := .cells #[.int .i64 t337, .slice Ao66 t338.length co66, .slice Ao67 t341.length co67] 24 (0, 0)) (by exact pK BK345.out) hb); have n11_ := Aside0.mk (below_step (by exact pB HB.out) hb); clear HO_319001; clear HO_319002; clear HO_320001; clear HO_320002; clear HO340; clear HO343; clear BK318; clear BK319; clear BK345; clear HB; have HO_319001 := n0_; have HO_319002 := n1_; have HO_320001 := n2_; have HO_320002 := n3_; have HO340 := n4_; have HO343 := n5_; have HO349 := n6_; have HO352 := n7_; have BK318 := n8_; have BK319 := n9_; have BK345 := n10_; have HB := n11_; clear n0_ n1_ n2_ n3_ n4_ n5_ n6_ n7_ n8_ n9_ n10_ n11_; (try clear hb); (try clear hb2); (try clear hk); (try clear hi); (try clear ho0); (try clear ho1)) | ((with_reducible refine gate_dst (N := 16) rfl ?_); refine box_event ?hg (N := 16) ?hd (cs := #[.int .i64 0, .slice none 0 0, .slice none 0 0]) (t := 24) ?hr ?_; (case hd => rfl); (case hg => rfl); (case hr => first | (go_simp; done) | (go_simp; rfl)); intro gb354 hg w71 hbox hb; have n0_ := Aside0.mk (Kd.V_below (Kd.V_elderB (by exact pV HO_319001.out) gb354 (Nat.le_of_eq hg.symm)) hb); have n1_ := Aside0.mk (Kd.V_below (Kd.V_elderB (by exact pV HO_319002.out) gb354 (Nat.le_of_eq hg.symm)) hb); have n2_ := Aside0.mk (Kd.V_below (Kd.V_elderB (by exact pV HO_320001.out) gb354 (Nat.le_of_eq hg.symm)) hb); have n3_ := Aside0.mk (Kd.V_below (Kd.V_elderB (by exact pV HO_320002.out) gb354 (Nat.le_of_eq hg.symm)) hb); have n4_ := Aside0.mk (Kd.R_below (by exact pR HO340.out) hb); have n5_ := Aside0.mk (Kd.R_below (by exact pR HO343.out) hb); have n6_ := Aside0.mk (Kd.R_below (by exact pR HO349.out) hb); have n7_ := Aside0.mk (Kd.V_below (Kd.V_elderB (by exact pV HO352.out) gb354 (Nat.le_of_eq hg.symm)) hb); have n8_ := Aside0.mk (blk_below (g := gb318) (o := .cells #[.int .i64 a0_0, .slice A0_1 l0_1.length c0_1, .slice A0_2 l0_2.length c0_2] 24 (0, 0)) (by exact pK BK318.out) hb); have n9_ := Aside0.mk (blk_below (g := gb319) (o := .cells #[.int .i64 x320000_5, .slice Ao59 x320001_5.length co59, .slice Ao60 x320002_5.length co60] 24 (0, 0)) (by exact pK BK319.out) hb); have n10_ := Aside0.mk (blk_below (g := gb345) (o := .cells #[.int .i64 t337, .slice Ao66 t338.length co66, .slice Ao67 t341.length co67] 24 (0, 0)) (by exact pK BK345.out) hb); have n11_ := Aside0.mk (below_step (by exact pB HB.out) hb); have n12_ := Aside0.mk (hbox); have n13_ := Aside0.mk ((by rw [hg]; exact (below_size (by exact pB HB.out)) : w.heap.size ≤ gb354)); have n14_ := Aside0.mk ((by rw [hg]; exact (below_size (by exact pB HB.out)) : w.heap.size ≤ gb354)); have n15_ := Aside0.mk ((by rw [hg]; exact Nat.ne_of_lt (blk_lt (g := gb318) (o := .cells #[.int .i64 a0_0, .slice A0_1 l0_1.length c0_1, .slice A0_2 l0_2.length c0_2] 24 (0, 0)) (by exact pK BK318.out)) : gb318 ≠ gb354)); have n16_ := Aside0.mk ((by rw [hg]; exact Nat.ne_of_gt (blk_lt (g := gb318) (o := .cells #[.int .i64 a0_0, .slice A0_1 l0_1.length c0_1, .slice A0_2 l0_2.length c0_2] 24 (0, 0)) (by exact pK BK318.out)) : gb354 ≠ gb318)); have n17_ := Aside0.mk ((by rw [hg]; exact Nat.ne_of_lt (blk_lt (g := gb319) (o := .cells #[.int .i64 x320000_5, .slice Ao59 x320001_5.length co59, .slice Ao60 x320002_5.length co60] 24 (0, 0)) (by exact pK BK319.out)) : gb319 ≠ gb354)); have n18_ := Aside0.mk ((by rw [hg]; exact Nat.ne_of_gt (blk_lt (g := gb319) (o := .cells #[.int .i64 x320000_5, .slice Ao59 x320001_5.length co59, .slice Ao60 x320002_5.length co60] 24 (0, 0)) (by exact pK BK319.out)) : gb354 ≠ gb319)); have n19_ := Aside0.mk ((by rw [hg]; exact Nat.ne_of_lt (blk_lt (g := gb345) (o := .cells #[.int .i64 t337, .slice Ao66 t338.length co66, .slice Ao67 t341.length co67] 24 (0, 0)) (by exact pK BK345.out)) : gb345 ≠ gb354)); have n20_ := Aside0.mk ((by rw [hg]; exact Nat.ne_of_gt (blk_lt (g := gb345) (o := .cells #[.int .i64 t337, .slice Ao66 t338.length co66, .slice Ao67 t341.length co67] 24 (0, 0)) (by exact pK BK345.out)) : gb354 ≠ gb345)); clear HO_319001; clear HO_319002; clear HO_320001; clear HO_320002; clear HO340; clear HO343; clear HO349; clear HO352; clear BK318; clear BK319; clear BK345; clear HB; have HO_319001 := n0_; have HO_319002 := n1_; have HO_320001 := n2_; have HO_320002 := n3_; have HO340 := n4_; have HO343 := n5_; have HO349 := n6_; have HO352 := n7_; have BK318 := n8_; have BK319 := n9_; have BK345 := n10_; have HB := n11_; have BK354 := n12_; have GW354 := n13_; have GE354 := n14_; have NB318_354 := n15_; have NB354_318 := n16_; have NB319_354 := n17_; have NB354_319 := n18_; have NB345_354 := n19_; have NB354_345 := n20_; clear n0_ n1_ n2_ n3_ n4_ n5_ n6_ n7_ n8_ n9_ n10_ n11_ n12_ n13_ n14_ n15_ n16_ n17_ n18_ n19_ n20_; clear hb hbox hg; have hnb72 := NB354_318.out; have hnc72 := NB318_354.out; have hnb73 := NB354_319.out; have hnc73 := NB319_354.out; have hnb74 := NB354_345.out; have hnc74 := NB345_354.out; have hcz75_0 : w71.cell? ⟨gb354, 0, none⟩ = some (.int .i64 0) := (blk_cell BK354.out 0).trans rfl; have hcz75_1 : w71.cell? ⟨gb354, 1, none⟩ = some (.slice none 0 0) := (blk_cell BK354.out 1).trans rfl; have hcz75_2 : w71.cell? ⟨gb354, 2, none⟩ = some (.slice none 0 0) := (blk_cell BK354.out 2).trans rfl; have hfz75_0 := blk_frozen BK354.out 0; have hfz75_1 := blk_frozen BK354.out 1; have hfz75_2 := blk_frozen BK354.out 2; obtain ⟨Ao76, co76, eo76⟩ := Kd.R_slice HO349.out; subst eo76; obtain ⟨Ao77, co77, eo77⟩ := Kd.V_slice HO352.out; subst eo77))
      (try simp only [Act.put, List.setIfInBounds_toArray, List.set_cons_zero, List.set_cons_succ])
      go_cut [98] (fun v98 wc => ∃ (kq : Nat) (x98_55 : Bool), v98 = .bool x98_55 ∧ Aside0 (customslaw38_ChannelSteps.j4 kq x1_5 x2_5 x3_5 x98_55 x320000_5 x320001_5 x320002_5 = some true) ∧ Aside0 (kq ≤ kj5) ∧ Aside0 (Kd.V (Kd.int .i64) 3 wc w.heap.size (fun k_ => ((P0_1_ k_ ∨ P0_2_ k_) ∨ w.heap.size ≤ k_) ∧ some k_ ≠ ((.slice Ao66 t338.length co66) : Value).ownBlock ∧ some k_ ≠ ((.slice Ao67 t341.length co67) : Value).ownBlock ∧ some k_ ≠ ((.slice Ao76 t347.length co76) : Value).ownBlock ∧ k_ ≠ gb318 ∧ k_ ≠ gb319 ∧ k_ ≠ gb345 ∧ k_ ≠ gb354) (.slice A0_1 l0_1.length c0_1) l0_1) ∧ Aside0 (Kd.V (Kd.int .i64) 3 wc w.heap.size (fun k_ => ((P0_1_ k_ ∨ P0_2_ k_) ∨ w.heap.size ≤ k_) ∧ some k_ ≠ ((.slice Ao66 t338.length co66) : Value).ownBlock ∧ some k_ ≠ ((.slice Ao67 t341.length co67) : Value).ownBlock ∧ some k_ ≠ ((.slice Ao76 t347.length co76) : Value).ownBlock ∧ k_ ≠ gb318 ∧ k_ ≠ gb319 ∧ k_ ≠ gb345 ∧ k_ ≠ gb354) (.slice A0_2 l0_2.length c0_2) l0_2) ∧ Aside0 (Kd.V (Kd.int .i64) 3 wc w.heap.size (fun k_ => ((P0_1_ k_ ∨ P0_2_ k_) ∨ w.heap.size ≤ k_) ∧ some k_ ≠ ((.slice Ao66 t338.length co66) : Value).ownBlock ∧ some k_ ≠ ((.slice Ao67 t341.length co67) : Value).ownBlock ∧ some k_ ≠ ((.slice Ao76 t347.length co76) : Value).ownBlock ∧ k_ ≠ gb318 ∧ k_ ≠ gb319 ∧ k_ ≠ gb345 ∧ k_ ≠ gb354) (.slice Ao59 x320001_5.length co59) x320001_5) ∧ Aside0 (Kd.V (Kd.int .i64) 3 wc w.heap.size (fun k_ => ((P0_1_ k_ ∨ P0_2_ k_) ∨ w.heap.size ≤ k_) ∧ some k_ ≠ ((.slice Ao66 t338.length co66) : Value).ownBlock ∧ some k_ ≠ ((.slice Ao67 t341.length co67) : Value).ownBlock ∧ some k_ ≠ ((.slice Ao76 t347.length co76) : Value).ownBlock ∧ k_ ≠ gb318 ∧ k_ ≠ gb319 ∧ k_ ≠ gb345 ∧ k_ ≠ gb354) (.slice Ao60 x320002_5.length co60) x320002_5) ∧ Aside0 (Kd.R (Kd.int .i64) 3 wc w.heap.size (fun k_ => (w.heap.size ≤ k_) ∧ some k_ ≠ ((.slice Ao67 t341.length co67) : Value).ownBlock ∧ some k_ ≠ ((.slice Ao76 t347.length co76) : Value).ownBlock) (.slice Ao66 t338.length co66) t338) ∧ Aside0 (Kd.R (Kd.int .i64) 3 wc w.heap.size (fun k_ => (w.heap.size ≤ k_) ∧ some k_ ≠ ((.slice Ao66 t338.length co66) : Value).ownBlock ∧ some k_ ≠ ((.slice Ao76 t347.length co76) : Value).ownBlock) (.slice Ao67 t341.length co67) t341) ∧ Aside0 (Kd.R (Kd.int .i64) 3 wc w.heap.size (fun k_ => (w.heap.size ≤ k_) ∧ some k_ ≠ ((.slice Ao66 t338.length co66) : Value).ownBlock ∧ some k_ ≠ ((.slice Ao67 t341.length co67) : Value).ownBlock) (.slice Ao76 t347.length co76) t347) ∧ Aside0 (Kd.V (Kd.int .i64) 3 wc w.heap.size (fun k_ => ((P0_1_ k_ ∨ P0_2_ k_) ∨ w.heap.size ≤ k_) ∧ some k_ ≠ ((.slice Ao66 t338.length co66) : Value).ownBlock ∧ some k_ ≠ ((.slice Ao67 t341.length co67) : Value).ownBlock ∧ some k_ ≠ ((.slice Ao76 t347.length co76) : Value).ownBlock ∧ k_ ≠ gb318 ∧ k_ ≠ gb319 ∧ k_ ≠ gb345 ∧ k_ ≠ gb354) (.slice Ao77 t350.length co77) t350) ∧ Aside0 (wc.heap[gb318]? = some (.cells #[.int .i64 a0_0, (.slice A0_1 l0_1.length c0_1), (.slice A0_2 l0_2.length c0_2)] 24 (0, 0))) ∧ Aside0 (wc.heap[gb319]? = some (.cells #[.int .i64 x320000_5, (.slice Ao59 x320001_5.length co59), (.slice Ao60 x320002_5.length co60)] 24 (0, 0))) ∧ Aside0 (wc.heap[gb345]? = some (.cells #[.int .i64 t337, (.slice Ao66 t338.length co66), (.slice Ao67 t341.length co67)] 24 (0, 0))) ∧ Aside0 (wc.heap[gb354]? = some (.cells #[.int .i64 t346, (.slice Ao76 t347.length co76), (.slice Ao77 t350.length co77)] 24 (0, 0))) ∧ Aside0 (Below w.heap.size w wc))
      case first => as_aux_lemma =>
        have H := HC56.out
        clear HC56
        by_cases c78 : t344 = t353
        · rw [if_pos c78] at H
          have c78b0 : (t344 == t353) = true := beq_iff_eq.mpr c78
          have c78b1 : (t344 != t353) = false := bne_eq_false_iff_eq.mpr c78
          clear c78
          (first | rw [c78b0] | (simp only [i64_w, i32_w]; rw [c78b0]) | skip)
          replace H := Option.bind_eq_some_iff.mp H
          obtain ⟨t355, A790, H⟩ := H
          replace H : (customslaw38_ChannelSteps.j4 kj5 x1_5 x2_5 x3_5 (!t355) x320000_5 x320001_5 x320002_5) = some true := H
          have A79 := Aside0.mk A790
          clear A790
          have H' := Aside0.mk H
          clear H
          have hnb80 := NB345_318.out
          have hnc80 := NB318_345.out
          have hnb81 := NB345_319.out
          have hnc81 := NB319_345.out
          have hnb82 := NB345_354.out
          have hnc82 := NB354_345.out
          have hcz83_0 : w71.cell? ⟨gb345, 0, none⟩ = some (.int .i64 t337) := (blk_cell BK345.out 0).trans rfl
          have hcz83_1 : w71.cell? ⟨gb345, 1, none⟩ = some (.slice Ao66 t338.length co66) := (blk_cell BK345.out 1).trans rfl
          have hcz83_2 : w71.cell? ⟨gb345, 2, none⟩ = some (.slice Ao67 t341.length co67) := (blk_cell BK345.out 2).trans rfl
          have hfz83_0 := blk_frozen BK345.out 0
          have hfz83_1 := blk_frozen BK345.out 1
          have hfz83_2 := blk_frozen BK345.out 2
          have hnb84 := NB354_318.out
          have hnc84 := NB318_354.out
          have hnb85 := NB354_319.out
          have hnc85 := NB319_354.out
          have hcz86_0 : w71.cell? ⟨gb354, 0, none⟩ = some (.int .i64 0) := (blk_cell BK354.out 0).trans rfl
          have hcz86_1 : w71.cell? ⟨gb354, 1, none⟩ = some (.slice none 0 0) := (blk_cell BK354.out 1).trans rfl
          have hcz86_2 : w71.cell? ⟨gb354, 2, none⟩ = some (.slice none 0 0) := (blk_cell BK354.out 2).trans rfl
          have hfz86_0 := blk_frozen BK354.out 0
          have hfz86_1 := blk_frozen BK354.out 1
          have hfz86_2 := blk_frozen BK354.out 2
          go_wp2_with (first | (go_at_call 10; (with_reducible refine (customsref33_SameLine.calls kj5 t337 _ _ t338 _ _ t341 t346 _ _ t347 _ _ t350 t355 _ ?side1 ?side2 ?side3 ?side4 ?side5 ?side6 ?side7 ?side8 A79.out).mono ?_); (case side1 => refine (Kd.R_reads' (e := 3) (base := w.heap.size) (ok := fun k_ => (((w.heap.size ≤ k_) ∧ some k_ ≠ (.slice Ao67 t341.length co67 : Value).ownBlock) ∧ some k_ ≠ (.slice Ao76 t347.length co76 : Value).ownBlock)) (n := t338.length) (c := co66) ?_).2.2; exact (by (with_reducible repeat (first | apply Kd.R_alloc | apply Kd.R_drewN | apply Kd.R_drew)); exact (Kd.R_mono (Kd.R_far (p := ⟨gb354, 2, none⟩) (Kd.R_far (p := ⟨gb354, 1, none⟩) (Kd.R_far (p := ⟨gb354, 0, none⟩) (Kd.R_types HO340.out BK354.out (by decide)) (fun _ hk => hk.2) (.int .i64 t346)) (fun _ hk => hk.2) (.slice Ao76 t347.length co76)) (fun _ hk => hk.2) (.slice Ao77 t350.length co77)) (fun _ h_ => h_.1)))); (case side2 => exact (Kd.R_reads' HO340.out).2.1); (case side3 => refine (Kd.R_reads' (e := 3) (base := w.heap.size) (ok := fun k_ => (((w.heap.size ≤ k_) ∧ some k_ ≠ (.slice Ao66 t338.length co66 : Value).ownBlock) ∧ some k_ ≠ (.slice Ao76 t347.length co76 : Value).ownBlock)) (n := t341.length) (c := co67) ?_).2.2; exact (by (with_reducible repeat (first | apply Kd.R_alloc | apply Kd.R_drewN | apply Kd.R_drew)); exact (Kd.R_mono (Kd.R_far (p := ⟨gb354, 2, none⟩) (Kd.R_far (p := ⟨gb354, 1, none⟩) (Kd.R_far (p := ⟨gb354, 0, none⟩) (Kd.R_types HO343.out BK354.out (by decide)) (fun _ hk => hk.2) (.int .i64 t346)) (fun _ hk => hk.2) (.slice Ao76 t347.length co76)) (fun _ hk => hk.2) (.slice Ao77 t350.length co77)) (fun _ h_ => h_.1)))); (case side4 => exact (Kd.R_reads' HO343.out).2.1); (case side5 => refine (Kd.R_reads' (e := 3) (base := w.heap.size) (ok := fun k_ => ((((w.heap.size ≤ k_) ∧ True) ∧ some k_ ≠ (.slice Ao66 t338.length co66 : Value).ownBlock) ∧ some k_ ≠ (.slice Ao67 t341.length co67 : Value).ownBlock)) (n := t347.length) (c := co76) ?_).2.2; exact (by (with_reducible repeat (first | apply Kd.R_alloc | apply Kd.R_drewN | apply Kd.R_drew)); exact (Kd.R_mono (Kd.R_far (p := ⟨gb354, 2, none⟩) (Kd.R_far (p := ⟨gb354, 1, none⟩) (Kd.R_far (p := ⟨gb354, 0, none⟩) (Kd.R_types HO349.out BK354.out (by decide)) (fun _ hk => hk.2) (.int .i64 t346)) (fun _ hk => hk.2) (.slice Ao76 t347.length co76)) (fun _ hk => hk.2) (.slice Ao77 t350.length co77)) (fun _ h_ => h_.1)))); (case side6 => exact (Kd.R_reads' HO349.out).2.1); (case side7 => refine (Kd.V_reads' (e := 3) (base := w.heap.size) (ok := fun k_ => ((((P0_1_ k_ ∨ P0_2_ k_) ∨ w.heap.size ≤ k_) ∧ (some k_ ≠ (.slice Ao76 t347.length co76 : Value).ownBlock ∧ (some k_ ≠ (.slice Ao66 t338.length co66 : Value).ownBlock ∧ (some k_ ≠ (.slice Ao67 t341.length co67 : Value).ownBlock ∧ (k_ ≠ gb318 ∧ (k_ ≠ gb319 ∧ k_ ≠ gb345)))))) ∧ k_ ≠ gb354)) (n := t350.length) (c := co77) ?_).2.2; exact (by (with_reducible repeat (first | apply Kd.V_alloc | apply Kd.V_drewN | apply Kd.V_drew)); exact (Kd.V_mono (Kd.V_far (p := ⟨gb354, 2, none⟩) (Kd.V_far (p := ⟨gb354, 1, none⟩) (Kd.V_far (p := ⟨gb354, 0, none⟩) (Kd.V_mono HO352.out (fun k_ hk => (⟨hk, hk.2⟩ : _ ∧ k_ ≠ gb354))) (fun _ hk => hk.2) (.int .i64 t346)) (fun _ hk => hk.2) (.slice Ao76 t347.length co76)) (fun _ hk => hk.2) (.slice Ao77 t350.length co77)) (fun _ h_ => h_.1)))); (case side8 => exact (Kd.V_reads' HO352.out).2.1); rintro e w87 ⟨rfl, hb⟩; have n0_ := Aside0.mk (Kd.V_below (by (with_reducible repeat (first | apply Kd.V_alloc | apply Kd.V_drewN | apply Kd.V_drew)); exact (Kd.V_mono (Kd.V_far (p := ⟨gb354, 2, none⟩) (Kd.V_far (p := ⟨gb354, 1, none⟩) (Kd.V_far (p := ⟨gb354, 0, none⟩) (Kd.V_mono HO_319001.out (fun k_ hk => (⟨hk, hk.2⟩ : _ ∧ k_ ≠ gb354))) (fun _ hk => hk.2) (.int .i64 t346)) (fun _ hk => hk.2) (.slice Ao76 t347.length co76)) (fun _ hk => hk.2) (.slice Ao77 t350.length co77)) (fun _ h_ => h_.1))) hb); have n1_ := Aside0.mk (Kd.V_below (by (with_reducible repeat (first | apply Kd.V_alloc | apply Kd.V_drewN | apply Kd.V_drew)); exact (Kd.V_mono (Kd.V_far (p := ⟨gb354, 2, none⟩) (Kd.V_far (p := ⟨gb354, 1, none⟩) (Kd.V_far (p := ⟨gb354, 0, none⟩) (Kd.V_mono HO_319002.out (fun k_ hk => (⟨hk, hk.2⟩ : _ ∧ k_ ≠ gb354))) (fun _ hk => hk.2) (.int .i64 t346)) (fun _ hk => hk.2) (.slice Ao76 t347.length co76)) (fun _ hk => hk.2) (.slice Ao77 t350.length co77)) (fun _ h_ => h_.1))) hb); have n2_ := Aside0.mk (Kd.V_below (by (with_reducible repeat (first | apply Kd.V_alloc | apply Kd.V_drewN | apply Kd.V_drew)); exact (Kd.V_mono (Kd.V_far (p := ⟨gb354, 2, none⟩) (Kd.V_far (p := ⟨gb354, 1, none⟩) (Kd.V_far (p := ⟨gb354, 0, none⟩) (Kd.V_mono HO_320001.out (fun k_ hk => (⟨hk, hk.2⟩ : _ ∧ k_ ≠ gb354))) (fun _ hk => hk.2) (.int .i64 t346)) (fun _ hk => hk.2) (.slice Ao76 t347.length co76)) (fun _ hk => hk.2) (.slice Ao77 t350.length co77)) (fun _ h_ => h_.1))) hb); have n3_ := Aside0.mk (Kd.V_below (by (with_reducible repeat (first | apply Kd.V_alloc | apply Kd.V_drewN | apply Kd.V_drew)); exact (Kd.V_mono (Kd.V_far (p := ⟨gb354, 2, none⟩) (Kd.V_far (p := ⟨gb354, 1, none⟩) (Kd.V_far (p := ⟨gb354, 0, none⟩) (Kd.V_mono HO_320002.out (fun k_ hk => (⟨hk, hk.2⟩ : _ ∧ k_ ≠ gb354))) (fun _ hk => hk.2) (.int .i64 t346)) (fun _ hk => hk.2) (.slice Ao76 t347.length co76)) (fun _ hk => hk.2) (.slice Ao77 t350.length co77)) (fun _ h_ => h_.1))) hb); have n4_ := Aside0.mk (Kd.R_below (by (with_reducible repeat (first | apply Kd.R_alloc | apply Kd.R_drewN | apply Kd.R_drew)); exact (Kd.R_mono (Kd.R_far (p := ⟨gb354, 2, none⟩) (Kd.R_far (p := ⟨gb354, 1, none⟩) (Kd.R_far (p := ⟨gb354, 0, none⟩) (Kd.R_types HO340.out BK354.out (by decide)) (fun _ hk => hk.2) (.int .i64 t346)) (fun _ hk => hk.2) (.slice Ao76 t347.length co76)) (fun _ hk => hk.2) (.slice Ao77 t350.length co77)) (fun _ h_ => h_.1))) hb); have n5_ := Aside0.mk (Kd.R_below (by (with_reducible repeat (first | apply Kd.R_alloc | apply Kd.R_drewN | apply Kd.R_drew)); exact (Kd.R_mono (Kd.R_far (p := ⟨gb354, 2, none⟩) (Kd.R_far (p := ⟨gb354, 1, none⟩) (Kd.R_far (p := ⟨gb354, 0, none⟩) (Kd.R_types HO343.out BK354.out (by decide)) (fun _ hk => hk.2) (.int .i64 t346)) (fun _ hk => hk.2) (.slice Ao76 t347.length co76)) (fun _ hk => hk.2) (.slice Ao77 t350.length co77)) (fun _ h_ => h_.1))) hb); have n6_ := Aside0.mk (Kd.R_below (by (with_reducible repeat (first | apply Kd.R_alloc | apply Kd.R_drewN | apply Kd.R_drew)); exact (Kd.R_mono (Kd.R_far (p := ⟨gb354, 2, none⟩) (Kd.R_far (p := ⟨gb354, 1, none⟩) (Kd.R_far (p := ⟨gb354, 0, none⟩) (Kd.R_types HO349.out BK354.out (by decide)) (fun _ hk => hk.2) (.int .i64 t346)) (fun _ hk => hk.2) (.slice Ao76 t347.length co76)) (fun _ hk => hk.2) (.slice Ao77 t350.length co77)) (fun _ h_ => h_.1))) hb); have n7_ := Aside0.mk (Kd.V_below (by (with_reducible repeat (first | apply Kd.V_alloc | apply Kd.V_drewN | apply Kd.V_drew)); exact (Kd.V_mono (Kd.V_far (p := ⟨gb354, 2, none⟩) (Kd.V_far (p := ⟨gb354, 1, none⟩) (Kd.V_far (p := ⟨gb354, 0, none⟩) (Kd.V_mono HO352.out (fun k_ hk => (⟨hk, hk.2⟩ : _ ∧ k_ ≠ gb354))) (fun _ hk => hk.2) (.int .i64 t346)) (fun _ hk => hk.2) (.slice Ao76 t347.length co76)) (fun _ hk => hk.2) (.slice Ao77 t350.length co77)) (fun _ h_ => h_.1))) hb); have n8_ := Aside0.mk (blk_below (g := gb318) (o := .cells #[.int .i64 a0_0, .slice A0_1 l0_1.length c0_1, .slice A0_2 l0_2.length c0_2] 24 (0, 0)) (by (with_reducible repeat (first | refine blk_drewN ?_ _ | refine blk_drew ?_ | refine blk_alloc ?_ _)); refine blk_far ?_ NB318_354.out _; (with_reducible repeat (first | refine blk_drewN ?_ _ | refine blk_drew ?_ | refine blk_alloc ?_ _)); refine blk_far ?_ NB318_354.out _; (with_reducible repeat (first | refine blk_drewN ?_ _ | refine blk_drew ?_ | refine blk_alloc ?_ _)); refine blk_far ?_ NB318_354.out _; (with_reducible repeat (first | refine blk_drewN ?_ _ | refine blk_drew ?_ | refine blk_alloc ?_ _)); exact BK318.out) hb); have n9_ := Aside0.mk (blk_below (g := gb319) (o := .cells #[.int .i64 x320000_5, .slice Ao59 x320001_5.length co59, .slice Ao60 x320002_5.length co60] 24 (0, 0)) (by (with_reducible repeat (first | refine blk_drewN ?_ _ | refine blk_drew ?_ | refine blk_alloc ?_ _)); refine blk_far ?_ NB319_354.out _; (with_reducible repeat (first | refine blk_drewN ?_ _ | refine blk_drew ?_ | refine blk_alloc ?_ _)); refine blk_far ?_ NB319_354.out _; (with_reducible repeat (first | refine blk_drewN ?_ _ | refine blk_drew ?_ | refine blk_alloc ?_ _)); refine blk_far ?_ NB319_354.out _; (with_reducible repeat (first | refine blk_drewN ?_ _ | refine blk_drew ?_ | refine blk_alloc ?_ _)); exact BK319.out) hb); have n10_ := Aside0.mk (blk_below (g := gb345) (o := .cells #[.int .i64 t337, .slice Ao66 t338.length co66, .slice Ao67 t341.length co67] 24 (0, 0)) (by (with_reducible repeat (first | refine blk_drewN ?_ _ | refine blk_drew ?_ | refine blk_alloc ?_ _)); refine blk_far ?_ NB345_354.out _; (with_reducible repeat (first | refine blk_drewN ?_ _ | refine blk_drew ?_ | refine blk_alloc ?_ _)); refine blk_far ?_ NB345_354.out _; (with_reducible repeat (first | refine blk_drewN ?_ _ | refine blk_drew ?_ | refine blk_alloc ?_ _)); refine blk_far ?_ NB345_354.out _; (with_reducible repeat (first | refine blk_drewN ?_ _ | refine blk_drew ?_ | refine blk_alloc ?_ _)); exact BK345.out) hb); have n11_ := Aside0.mk (blk_below (g := gb354) (o := .cells #[.int .i64 t346, .slice Ao76 t347.length co76, .slice Ao77 t350.length co77] 24 (0, 0)) (by (with_reducible repeat (first | refine blk_drewN ?_ _ | refine blk_drew ?_ | refine blk_alloc ?_ _)); refine blk_put (cs := #[.int .i64 t346, .slice Ao76 t347.length co76, .slice none 0 0]) ?_ 2 _ rfl; (with_reducible repeat (first | refine blk_drewN ?_ _ | refine blk_drew ?_ | refine blk_alloc ?_ _)); refine blk_put (cs := #[.int .i64 t346, .slice none 0 0, .slice none 0 0]) ?_ 1 _ rfl; (with_reducible repeat (first | refine blk_drewN ?_ _ | refine blk_drew ?_ | refine blk_alloc ?_ _)); refine blk_put (cs := #[.int .i64 0, .slice none 0 0, .slice none 0 0]) ?_ 0 _ rfl; (with_reducible repeat (first | refine blk_drewN ?_ _ | refine blk_drew ?_ | refine blk_alloc ?_ _)); exact BK354.out) hb); have n12_ := Aside0.mk (below_step (by repeat (first | (with_reducible first | exact HB.out | apply below_alloc | apply pw_below_drewN | apply below_drew1 | refine below_set ?_ GE318.out | refine below_set ?_ GE319.out | refine below_set ?_ GE345.out | refine below_set ?_ GE354.out) | exact HB.out)) hb); clear HO_319001; clear HO_319002; clear HO_320001; clear HO_320002; clear HO340; clear HO343; clear HO349; clear HO352; clear BK318; clear BK319; clear BK345; clear BK354; clear HB; have HO_319001 := n0_; have HO_319002 := n1_; have HO_320001 := n2_; have HO_320002 := n3_; have HO340 := n4_; have HO343 := n5_; have HO349 := n6_; have HO352 := n7_; have BK318 := n8_; have BK319 := n9_; have BK345 := n10_; have BK354 := n11_; have HB := n12_; clear n0_ n1_ n2_ n3_ n4_ n5_ n6_ n7_ n8_ n9_ n10_ n11_ n12_; (try clear hb); (try clear hb2); (try clear hk); (try clear hi)))
          go_meet
          case rel => exact ⟨_, (!t355), (by first | rfl | (simp; done) | (simp [*]; done)), H', ⟨by have := HJ5.out; first | omega | exact Nat.le_refl _⟩, ⟨by exact pV (Kd.V_mono HO_319001.out (fun _ hk => ⟨hk.1.1.1, ⟨hk.1.1.2.1, ⟨hk.1.1.2.2.1, ⟨hk.1.2, ⟨hk.1.1.2.2.2.1, ⟨hk.1.1.2.2.2.2.1, ⟨hk.1.1.2.2.2.2.2, hk.2⟩⟩⟩⟩⟩⟩⟩))⟩, ⟨by exact pV (Kd.V_mono HO_319002.out (fun _ hk => ⟨hk.1.1.1, ⟨hk.1.1.2.1, ⟨hk.1.1.2.2.1, ⟨hk.1.2, ⟨hk.1.1.2.2.2.1, ⟨hk.1.1.2.2.2.2.1, ⟨hk.1.1.2.2.2.2.2, hk.2⟩⟩⟩⟩⟩⟩⟩))⟩, ⟨by exact pV (Kd.V_mono HO_320001.out (fun _ hk => ⟨hk.1.1.1, ⟨hk.1.1.2.1, ⟨hk.1.1.2.2.1, ⟨hk.1.2, ⟨hk.1.1.2.2.2.1, ⟨hk.1.1.2.2.2.2.1, ⟨hk.1.1.2.2.2.2.2, hk.2⟩⟩⟩⟩⟩⟩⟩))⟩, ⟨by exact pV (Kd.V_mono HO_320002.out (fun _ hk => ⟨hk.1.1.1, ⟨hk.1.1.2.1, ⟨hk.1.1.2.2.1, ⟨hk.1.2, ⟨hk.1.1.2.2.2.1, ⟨hk.1.1.2.2.2.2.1, ⟨hk.1.1.2.2.2.2.2, hk.2⟩⟩⟩⟩⟩⟩⟩))⟩, ⟨by exact pR (Kd.R_mono HO340.out (fun _ hk => ⟨hk.1.1, ⟨hk.1.2, hk.2⟩⟩))⟩, ⟨by exact pR (Kd.R_mono HO343.out (fun _ hk => ⟨hk.1.1, ⟨hk.1.2, hk.2⟩⟩))⟩, ⟨by exact pR (Kd.R_mono HO349.out (fun _ hk => ⟨hk.1.1.1, ⟨hk.1.2, hk.2⟩⟩))⟩, ⟨by exact pV (Kd.V_mono HO352.out (fun _ hk => ⟨hk.1.1, ⟨hk.1.2.2.1, ⟨hk.1.2.2.2.1, ⟨hk.1.2.1, ⟨hk.1.2.2.2.2.1, ⟨hk.1.2.2.2.2.2.1, ⟨hk.1.2.2.2.2.2.2, hk.2⟩⟩⟩⟩⟩⟩⟩))⟩, ⟨by exact pK BK318.out⟩, ⟨by exact pK BK319.out⟩, ⟨by exact pK BK345.out⟩, ⟨by exact pK BK354.out⟩, ⟨by exact pB HB.out⟩⟩
        · rw [if_neg c78] at H
          have c78b0 : (t344 == t353) = false := beq_eq_false_iff_ne.mpr c78
          have c78b1 : (t344 != t353) = true := bne_iff_ne.mpr c78
          (first | rw [c78b0] | (simp only [i64_w, i32_w]; rw [c78b0]) | skip)
          exact absurd H (by cases kj5 <;> simp [customslaw38_ChannelSteps.j4])
      case rest => as_aux_lemma =>
        clear HC56
        try clear c1; try clear c2; try clear p2; try clear c3; try clear p3; try clear q3; try clear hx3; try clear c4; try clear c5; try clear c6; try clear p6; try clear c7; try clear c8; try clear c10; try clear c12; try clear c13; try clear c14; try clear c15; try clear c18; try clear c18b0; try clear c19; try clear c19b0; try clear c20; try clear c20b0; try clear c22; try clear c23; try clear c29; try clear c31; try clear p32; try clear q32; try clear hx32; try clear c33; try clear c33b0; try clear c34; try clear c34b0; try clear c35; try clear c35b0; try clear c37; try clear c38; try clear c47; try clear c52; try clear c57; try clear c63; try clear c64; try clear p64; try clear c72; try clear c73; try clear c74; try clear c78; try clear c78b0; try clear c78b1; try clear c80; try clear c81; try clear c82; try clear c84; try clear c85; try clear hcz11_0; try clear hcz11_1; try clear hcz11_2; try clear hcz16_0; try clear hcz16_1; try clear hcz16_2; try clear hcz17_0; try clear hcz17_1; try clear hcz17_2; try clear hcz24_0; try clear hcz24_1; try clear hcz24_2; try clear hcz30_0; try clear hcz30_1; try clear hcz30_2; try clear hcz32_0; try clear hcz32_1; try clear hcz32_2; try clear hcz39_0; try clear hcz39_1; try clear hcz39_2; try clear hcz48_0; try clear hcz48_1; try clear hcz48_2; try clear hcz53_0; try clear hcz53_1; try clear hcz53_2; try clear hcz58_0; try clear hcz58_1; try clear hcz58_2; try clear hcz65_0; try clear hcz65_1; try clear hcz65_2; try clear hcz69_0; try clear hcz69_1; try clear hcz69_2; try clear hcz75_0; try clear hcz75_1; try clear hcz75_2; try clear hcz83_0; try clear hcz83_1; try clear hcz83_2; try clear hcz86_0; try clear hcz86_1; try clear hcz86_2; try clear hcz8_0; try clear hcz8_1; try clear hcz8_2; try clear hfz11_0; try clear hfz11_1; try clear hfz11_2; try clear hfz16_0; try clear hfz16_1; try clear hfz16_2; try clear hfz17_0; try clear hfz17_1; try clear hfz17_2; try clear hfz24_0; try clear hfz24_1; try clear hfz24_2; try clear hfz30_0; try clear hfz30_1; try clear hfz30_2; try clear hfz32_0
        try clear hfz32_1; try clear hfz32_2; try clear hfz39_0; try clear hfz39_1; try clear hfz39_2; try clear hfz48_0; try clear hfz48_1; try clear hfz48_2; try clear hfz53_0; try clear hfz53_1; try clear hfz53_2; try clear hfz58_0; try clear hfz58_1; try clear hfz58_2; try clear hfz65_0; try clear hfz65_1; try clear hfz65_2; try clear hfz69_0; try clear hfz69_1; try clear hfz69_2; try clear hfz75_0; try clear hfz75_1; try clear hfz75_2; try clear hfz83_0; try clear hfz83_1; try clear hfz83_2; try clear hfz86_0; try clear hfz86_1; try clear hfz86_2; try clear hfz8_0; try clear hfz8_1; try clear hfz8_2; try clear hx321_0; try clear hx326_0; try clear p2; try clear p3; try clear p32; try clear p321; try clear p326; try clear p6; try clear q3; try clear q32; try clear q321; try clear q326
        obtain ⟨kq, x98_55, rfl, HA, HJ55, HO_319001, HO_319002, HO_320001, HO_320002, HO_346001, HO_346002, HO_355001, HO_355002, BK318, BK319, BK345, BK354, HB⟩ := hcut
        cases kq with
        | zero => exact absurd HA.out (by simp [customslaw38_ChannelSteps.j4])
        | succ kj55 =>
          have H := HA.out
          clear HA
          simp only [customslaw38_ChannelSteps.j4] at H
          have c88 : ¬ (x98_55 = true) := by
            intro c88
            rw [if_pos c88] at H
            exact absurd (Option.some.inj H) (by simp)
          replace c88 := Bool.eq_false_iff.mpr c88
          subst c88
          have H1 : ((channel_Deliver.f kj55 x320000_5 x320001_5 x320002_5 x2_5 x3_5).bind fun bt356 => ((customsref33_Deliver.f kj55 x320000_5 x320001_5 x320002_5 x2_5 x3_5).bind fun bt365 => (if bt356.2.2.2.2 = bt365.2.2.2.2 then (if bt356.2.2.2.1 = bt365.2.2.2.1 then ((customsref33_SameLine.f kj55 bt356.1 bt356.2.1 bt356.2.2.1 bt365.1 bt365.2.1 bt365.2.2.1).bind fun t374 => (customslaw38_ChannelSteps.j5 kj55 x1_5 x2_5 (!t374) x320000_5 x320001_5 x320002_5)) else (customslaw38_ChannelSteps.j5 kj55 x1_5 x2_5 true x320000_5 x320001_5 x320002_5)) else (customslaw38_ChannelSteps.j5 kj55 x1_5 x2_5 true x320000_5 x320001_5 x320002_5)))) = some true := by rw [if_neg (show ¬ (false = true) by decide)] at H; exact H
          clear H
          have H := H1
          clear H1
          replace H := Option.bind_eq_some_iff.mp H
          obtain ⟨⟨t356, t357, t360, t363, t364⟩, A890, H⟩ := H
          replace H : ((customsref33_Deliver.f kj55 x320000_5 x320001_5 x320002_5 x2_5 x3_5).bind fun bt365 => (if t364 = bt365.2.2.2.2 then (if t363 = bt365.2.2.2.1 then ((customsref33_SameLine.f kj55 t356 t357 t360 bt365.1 bt365.2.1 bt365.2.2.1).bind fun t374 => (customslaw38_ChannelSteps.j5 kj55 x1_5 x2_5 (!t374) x320000_5 x320001_5 x320002_5)) else (customslaw38_ChannelSteps.j5 kj55 x1_5 x2_5 true x320000_5 x320001_5 x320002_5)) else (customslaw38_ChannelSteps.j5 kj55 x1_5 x2_5 true x320000_5 x320001_5 x320002_5))) = some true := H
          have A89 := Aside0.mk A890
          clear A890
          replace H := Option.bind_eq_some_iff.mp H
          obtain ⟨⟨t365, t366, t369, t372, t373⟩, A900, H⟩ := H
          replace H : (if t364 = t373 then (if t363 = t372 then ((customsref33_SameLine.f kj55 t356 t357 t360 t365 t366 t369).bind fun t374 => (customslaw38_ChannelSteps.j5 kj55 x1_5 x2_5 (!t374) x320000_5 x320001_5 x320002_5)) else (customslaw38_ChannelSteps.j5 kj55 x1_5 x2_5 true x320000_5 x320001_5 x320002_5)) else (customslaw38_ChannelSteps.j5 kj55 x1_5 x2_5 true x320000_5 x320001_5 x320002_5)) = some true := H
          have A90 := Aside0.mk A900
          clear A900
          have HC91 := Aside0.mk H
          clear H
          have hnb92 := NB319_318.out
          have hnc92 := NB318_319.out
          have hnb93 := NB319_345.out
          have hnc93 := NB345_319.out
          have hnb94 := NB319_354.out
          have hnc94 := NB354_319.out
          have hcz95_0 : wc.cell? ⟨gb319, 0, none⟩ = some (.int .i64 x320000_5) := (blk_cell BK319.out 0).trans rfl
          have hcz95_1 : wc.cell? ⟨gb319, 1, none⟩ = some (.slice Ao59 x320001_5.length co59) := (blk_cell BK319.out 1).trans rfl
          have hcz95_2 : wc.cell? ⟨gb319, 2, none⟩ = some (.slice Ao60 x320002_5.length co60) := (blk_cell BK319.out 2).trans rfl
          have hfz95_0 := blk_frozen BK319.out 0
          have hfz95_1 := blk_frozen BK319.out 1
          have hfz95_2 := blk_frozen BK319.out 2
          go_upto_region 19 with (first | ((with_reducible refine gate_callee (f := 15) rfl ?_); refine goesL_ (some 103) rfl rfl Try.func15 (by kernel_rfl) rfl #[.agg #[.int .i64 x320000_5, .slice Ao59 x320001_5.length co59, .slice Ao60 x320002_5.length co60], .int .i64 x2_5, .int .i64 x3_5] rfl (by (try simp only [List.map_toArray, List.map_cons, List.map_nil]); first | done | rfl | (simp only [List.length_drop, List.length_take]; rfl)) ?_; (with_reducible refine (channel_Deliver.calls kj55 x320000_5 _ _ x320001_5 _ _ x320002_5 x2_5 x3_5 t356 t357 t360 t363 t364 _ ?side1 ?side2 ?side3 ?side4 A89.out).mono ?_); (case side1 => exact pC (Kd.V_reads' HO_320001.out).2.2); (case side2 => exact (Kd.V_reads' HO_320001.out).2.1); (case side3 => exact pC (Kd.V_reads' HO_320002.out).2.2); (case side4 => exact (Kd.V_reads' HO_320002.out).2.1); rintro e w96 ⟨v358, v361, rfl, ho0, ho1, hb⟩; refine ⟨_, rfl, ?_⟩; have n0_ := Aside0.mk (Kd.V_mono (Kd.V_told (Kd.V_told (Kd.V_old (by exact pV HO_319001.out) hb) (Kd.R_base ho0)) (Kd.R_base ho1)) (fun _ h_ => h_.1)); have n1_ := Aside0.mk (Kd.V_mono (Kd.V_told (Kd.V_told (Kd.V_old (by exact pV HO_319002.out) hb) (Kd.R_base ho0)) (Kd.R_base ho1)) (fun _ h_ => h_.1)); have n2_ := Aside0.mk (Kd.V_mono (Kd.V_told (Kd.V_told (Kd.V_old (by exact pV HO_320001.out) hb) (Kd.R_base ho0)) (Kd.R_base ho1)) (fun _ h_ => h_.1)); have n3_ := Aside0.mk (Kd.V_mono (Kd.V_told (Kd.V_told (Kd.V_old (by exact pV HO_320002.out) hb) (Kd.R_base ho0)) (Kd.R_base ho1)) (fun _ h_ => h_.1)); have n4_ := Aside0.mk (Kd.R_lower (Kd.R_newM (M := fun k_ => (w.heap.size ≤ k_)) ho0 (below_size (by exact pB HB.out)) (fun k_ h_ => h_)) (below_size (by exact pB HB.out))); have n5_ := Aside0.mk (Kd.R_lower (Kd.R_newM (M := fun k_ => (w.heap.size ≤ k_)) ho1 (below_size (by exact pB HB.out)) (fun k_ h_ => h_)) (below_size (by exact pB HB.out))); have n6_ := Aside0.mk (blk_below (g := gb318) (o := .cells #[.int .i64 a0_0, .slice A0_1 l0_1.length c0_1, .slice A0_2 l0_2.length c0_2] 24 (0, 0)) (by exact pK BK318.out) hb); have n7_ := Aside0.mk (blk_below (g := gb319) (o := .cells #[.int .i64 x320000_5, .slice Ao59 x320001_5.length co59, .slice Ao60 x320002_5.length co60] 24 (0, 0)) (by exact pK BK319.out) hb); have n8_ := Aside0.mk (blk_below (g := gb345) (o := .cells #[.int .i64 t337, .slice Ao66 t338.length co66, .slice Ao67 t341.length co67] 24 (0, 0)) (by exact pK BK345.out) hb); have n9_ := Aside0.mk (blk_below (g := gb354) (o := .cells #[.int .i64 t346, .slice Ao76 t347.length co76, .slice Ao77 t350.length co77] 24 (0, 0)) (by exact pK BK354.out) hb); have n10_ := Aside0.mk (below_step (by exact pB HB.out) hb); clear HO_319001; clear HO_319002; clear HO_320001; clear HO_320002; clear BK318; clear BK319; clear BK345; clear BK354; clear HB; have HO_319001 := n0_; have HO_319002 := n1_; have HO_320001 := n2_; have HO_320002 := n3_; have HO359 := n4_; have HO362 := n5_; have BK318 := n6_; have BK319 := n7_; have BK345 := n8_; have BK354 := n9_; have HB := n10_; clear n0_ n1_ n2_ n3_ n4_ n5_ n6_ n7_ n8_ n9_ n10_; (try clear hb); (try clear hb2); (try clear hk); (try clear hi); (try clear ho0); (try clear ho1); have hnb97 := NB345_318.out; have hnc97 := NB318_345.out; have hnb98 := NB345_354.out; have hnc98 := NB354_345.out; have hcz99_0 : w96.cell? ⟨gb345, 0, none⟩ = some (.int .i64 t337) := (blk_cell BK345.out 0).trans rfl; have hcz99_1 : w96.cell? ⟨gb345, 1, none⟩ = some (.slice Ao66 t338.length co66) := (blk_cell BK345.out 1).trans rfl; have hcz99_2 : w96.cell? ⟨gb345, 2, none⟩ = some (.slice Ao67 t341.length co67) := (blk_cell BK345.out 2).trans rfl; have hfz99_0 := blk_frozen BK345.out 0; have hfz99_1 := blk_frozen BK345.out 1; have hfz99_2 := blk_frozen BK345.out 2; obtain ⟨Ao100, co100, eo100⟩ := Kd.R_slice HO359.out; subst eo100; obtain ⟨Ao101, co101, eo101⟩ := Kd.R_slice HO362.out; subst eo101; have hcz102_0 : w96.cell? ⟨gb319, 0, none⟩ = some (.int .i64 x320000_5) := (blk_cell BK319.out 0).trans rfl; have hcz102_1 : w96.cell? ⟨gb319, 1, none⟩ = some (.slice Ao59 x320001_5.length co59) := (blk_cell BK319.out 1).trans rfl; have hcz102_2 : w96.cell? ⟨gb319, 2, none⟩ = some (.slice Ao60 x320002_5.length co60) := (blk_cell BK319.out 2).trans rfl; have hfz102_0 := blk_frozen BK319.out 0; have hfz102_1 := blk_frozen BK319.out 1; have hfz102_2 := blk_frozen BK319.out 2) | ((with_reducible refine gate_callee (f := 16) rfl ?_); refine goesL_ (some 111) rfl rfl Try.func16 (by kernel_rfl) rfl #[.agg #[.int .i64 x320000_5, .slice Ao59 x320001_5.length co59, .slice Ao60 x320002_5.length co60], .int .i64 x2_5, .int .i64 x3_5] rfl (by (try simp only [List.map_toArray, List.map_cons, List.map_nil]); first | done | rfl | (simp only [List.length_drop, List.length_take]; rfl)) ?_; (with_reducible refine (customsref33_Deliver.calls kj55 x320000_5 _ _ x320001_5 _ _ x320002_5 x2_5 x3_5 t365 t366 t369 t372 t373 _ ?side1 ?side2 ?side3 ?side4 A90.out).mono ?_); (case side1 => refine (Kd.V_reads' (e := 3) (base := w.heap.size) (ok := fun k_ => (((((P0_1_ k_ ∨ P0_2_ k_) ∨ w.heap.size ≤ k_) ∧ (some k_ ≠ (.slice Ao66 t338.length co66 : Value).ownBlock ∧ (some k_ ≠ (.slice Ao67 t341.length co67 : Value).ownBlock ∧ (some k_ ≠ (.slice Ao76 t347.length co76 : Value).ownBlock ∧ (k_ ≠ gb318 ∧ (k_ ≠ gb319 ∧ (k_ ≠ gb345 ∧ k_ ≠ gb354))))))) ∧ some k_ ≠ (.slice Ao100 t357.length co100 : Value).ownBlock) ∧ some k_ ≠ (.slice Ao101 t360.length co101 : Value).ownBlock)) (n := x320001_5.length) (c := co59) ?_).2.2; exact (by (with_reducible repeat (first | apply Kd.V_alloc | apply Kd.V_drewN | apply Kd.V_drew)); exact (Kd.V_mono (Kd.V_far (p := ⟨gb345, 2, none⟩) (Kd.V_far (p := ⟨gb345, 1, none⟩) (Kd.V_far (p := ⟨gb345, 0, none⟩) (Kd.V_mono HO_320001.out (fun k_ hk => (⟨hk, hk.1.1.2.2.2.2.2.2.1⟩ : _ ∧ k_ ≠ gb345))) (fun _ hk => hk.2) (.int .i64 t356)) (fun _ hk => hk.2) (.slice Ao100 t357.length co100)) (fun _ hk => hk.2) (.slice Ao101 t360.length co101)) (fun _ h_ => h_.1)))); (case side2 => exact (Kd.V_reads' HO_320001.out).2.1); (case side3 => refine (Kd.V_reads' (e := 3) (base := w.heap.size) (ok := fun k_ => (((((P0_1_ k_ ∨ P0_2_ k_) ∨ w.heap.size ≤ k_) ∧ (some k_ ≠ (.slice Ao66 t338.length co66 : Value).ownBlock ∧ (some k_ ≠ (.slice Ao67 t341.length co67 : Value).ownBlock ∧ (some k_ ≠ (.slice Ao76 t347.length co76 : Value).ownBlock ∧ (k_ ≠ gb318 ∧ (k_ ≠ gb319 ∧ (k_ ≠ gb345 ∧ k_ ≠ gb354))))))) ∧ some k_ ≠ (.slice Ao100 t357.length co100 : Value).ownBlock) ∧ some k_ ≠ (.slice Ao101 t360.length co101 : Value).ownBlock)) (n := x320002_5.length) (c := co60) ?_).2.2; exact (by (with_reducible repeat (first | apply Kd.V_alloc | apply Kd.V_drewN | apply Kd.V_drew)); exact (Kd.V_mono (Kd.V_far (p := ⟨gb345, 2, none⟩) (Kd.V_far (p := ⟨gb345, 1, none⟩) (Kd.V_far (p := ⟨gb345, 0, none⟩) (Kd.V_mono HO_320002.out (fun k_ hk => (⟨hk, hk.1.1.2.2.2.2.2.2.1⟩ : _ ∧ k_ ≠ gb345))) (fun _ hk => hk.2) (.int .i64 t356)) (fun _ hk => hk.2) (.slice Ao100 t357.length co100)) (fun _ hk => hk.2) (.slice Ao101 t360.length co101)) (fun _ h_ => h_.1)))); (case side4 => exact (Kd.V_reads' HO_320002.out).2.1); rintro e w103 ⟨v367, v370, rfl, ho0, ho1, hb⟩; refine ⟨_, rfl, ?_⟩; have n0_ := Aside0.mk (Kd.V_mono (Kd.V_told (Kd.V_told (Kd.V_old (by (with_reducible repeat (first | apply Kd.V_alloc | apply Kd.V_drewN | apply Kd.V_drew)); exact (Kd.V_mono (Kd.V_far (p := ⟨gb345, 2, none⟩) (Kd.V_far (p := ⟨gb345, 1, none⟩) (Kd.V_far (p := ⟨gb345, 0, none⟩) (Kd.V_mono HO_319001.out (fun k_ hk => (⟨hk, hk.1.1.2.2.2.2.2.2.1⟩ : _ ∧ k_ ≠ gb345))) (fun _ hk => hk.2) (.int .i64 t356)) (fun _ hk => hk.2) (.slice Ao100 t357.length co100)) (fun _ hk => hk.2) (.slice Ao101 t360.length co101)) (fun _ h_ => h_.1))) hb) (Kd.R_base ho0)) (Kd.R_base ho1)) (fun _ h_ => h_.1)); have n1_ := Aside0.mk (Kd.V_mono (Kd.V_told (Kd.V_told (Kd.V_old (by (with_reducible repeat (first | apply Kd.V_alloc | apply Kd.V_drewN | apply Kd.V_drew)); exact (Kd.V_mono (Kd.V_far (p := ⟨gb345, 2, none⟩) (Kd.V_far (p := ⟨gb345, 1, none⟩) (Kd.V_far (p := ⟨gb345, 0, none⟩) (Kd.V_mono HO_319002.out (fun k_ hk => (⟨hk, hk.1.1.2.2.2.2.2.2.1⟩ : _ ∧ k_ ≠ gb345))) (fun _ hk => hk.2) (.int .i64 t356)) (fun _ hk => hk.2) (.slice Ao100 t357.length co100)) (fun _ hk => hk.2) (.slice Ao101 t360.length co101)) (fun _ h_ => h_.1))) hb) (Kd.R_base ho0)) (Kd.R_base ho1)) (fun _ h_ => h_.1)); have n2_ := Aside0.mk (Kd.V_mono (Kd.V_told (Kd.V_told (Kd.V_old (by (with_reducible repeat (first | apply Kd.V_alloc | apply Kd.V_drewN | apply Kd.V_drew)); exact (Kd.V_mono (Kd.V_far (p := ⟨gb345, 2, none⟩) (Kd.V_far (p := ⟨gb345, 1, none⟩) (Kd.V_far (p := ⟨gb345, 0, none⟩) (Kd.V_mono HO_320001.out (fun k_ hk => (⟨hk, hk.1.1.2.2.2.2.2.2.1⟩ : _ ∧ k_ ≠ gb345))) (fun _ hk => hk.2) (.int .i64 t356)) (fun _ hk => hk.2) (.slice Ao100 t357.length co100)) (fun _ hk => hk.2) (.slice Ao101 t360.length co101)) (fun _ h_ => h_.1))) hb) (Kd.R_base ho0)) (Kd.R_base ho1)) (fun _ h_ => h_.1)); have n3_ := Aside0.mk (Kd.V_mono (Kd.V_told (Kd.V_told (Kd.V_old (by (with_reducible repeat (first | apply Kd.V_alloc | apply Kd.V_drewN | apply Kd.V_drew)); exact (Kd.V_mono (Kd.V_far (p := ⟨gb345, 2, none⟩) (Kd.V_far (p := ⟨gb345, 1, none⟩) (Kd.V_far (p := ⟨gb345, 0, none⟩) (Kd.V_mono HO_320002.out (fun k_ hk => (⟨hk, hk.1.1.2.2.2.2.2.2.1⟩ : _ ∧ k_ ≠ gb345))) (fun _ hk => hk.2) (.int .i64 t356)) (fun _ hk => hk.2) (.slice Ao100 t357.length co100)) (fun _ hk => hk.2) (.slice Ao101 t360.length co101)) (fun _ h_ => h_.1))) hb) (Kd.R_base ho0)) (Kd.R_base ho1)) (fun _ h_ => h_.1)); have n4_ := Aside0.mk (Kd.R_mono (Kd.R_told (Kd.R_told (Kd.R_old (by (with_reducible repeat (first | apply Kd.R_alloc | apply Kd.R_drewN | apply Kd.R_drew)); exact (Kd.R_mono (Kd.R_far (p := ⟨gb345, 2, none⟩) (Kd.R_far (p := ⟨gb345, 1, none⟩) (Kd.R_far (p := ⟨gb345, 0, none⟩) (Kd.R_types HO359.out BK345.out (by decide)) (fun _ hk => hk.2) (.int .i64 t356)) (fun _ hk => hk.2) (.slice Ao100 t357.length co100)) (fun _ hk => hk.2) (.slice Ao101 t360.length co101)) (fun _ h_ => h_.1))) hb) (Kd.R_base ho0)) (Kd.R_base ho1)) (fun _ h_ => h_.1)); have n5_ := Aside0.mk (Kd.R_mono (Kd.R_told (Kd.R_told (Kd.R_old (by (with_reducible repeat (first | apply Kd.R_alloc | apply Kd.R_drewN | apply Kd.R_drew)); exact (Kd.R_mono (Kd.R_far (p := ⟨gb345, 2, none⟩) (Kd.R_far (p := ⟨gb345, 1, none⟩) (Kd.R_far (p := ⟨gb345, 0, none⟩) (Kd.R_types HO362.out BK345.out (by decide)) (fun _ hk => hk.2) (.int .i64 t356)) (fun _ hk => hk.2) (.slice Ao100 t357.length co100)) (fun _ hk => hk.2) (.slice Ao101 t360.length co101)) (fun _ h_ => h_.1))) hb) (Kd.R_base ho0)) (Kd.R_base ho1)) (fun _ h_ => h_.1)); have n6_ := Aside0.mk (Kd.R_lower (Kd.R_new' (Kd.R_new' (Kd.R_newM (M := fun k_ => (w.heap.size ≤ k_)) ho0 (below_size (by repeat (first | (with_reducible first | exact HB.out | apply below_alloc | apply pw_below_drewN | apply below_drew1 | refine below_set ?_ GE318.out | refine below_set ?_ GE319.out | refine below_set ?_ GE345.out | refine below_set ?_ GE354.out) | exact HB.out))) (fun k_ h_ => h_)) (Kd.R_lt (by (with_reducible repeat (first | apply Kd.R_alloc | apply Kd.R_drewN | apply Kd.R_drew)); exact (Kd.R_mono (Kd.R_far (p := ⟨gb345, 2, none⟩) (Kd.R_far (p := ⟨gb345, 1, none⟩) (Kd.R_far (p := ⟨gb345, 0, none⟩) (Kd.R_types HO359.out BK345.out (by decide)) (fun _ hk => hk.2) (.int .i64 t356)) (fun _ hk => hk.2) (.slice Ao100 t357.length co100)) (fun _ hk => hk.2) (.slice Ao101 t360.length co101)) (fun _ h_ => h_.1))))) (Kd.R_lt (by (with_reducible repeat (first | apply Kd.R_alloc | apply Kd.R_drewN | apply Kd.R_drew)); exact (Kd.R_mono (Kd.R_far (p := ⟨gb345, 2, none⟩) (Kd.R_far (p := ⟨gb345, 1, none⟩) (Kd.R_far (p := ⟨gb345, 0, none⟩) (Kd.R_types HO362.out BK345.out (by decide)) (fun _ hk => hk.2) (.int .i64 t356)) (fun _ hk => hk.2) (.slice Ao100 t357.length co100)) (fun _ hk => hk.2) (.slice Ao101 t360.length co101)) (fun _ h_ => h_.1))))) (below_size (by repeat (first | (with_reducible first | exact HB.out | apply below_alloc | apply pw_below_drewN | apply below_drew1 | refine below_set ?_ GE318.out | refine below_set ?_ GE319.out | refine below_set ?_ GE345.out | refine below_set ?_ GE354.out) | exact HB.out)))); have n7_ := Aside0.mk (Kd.R_lower (Kd.R_new' (Kd.R_new' (Kd.R_newM (M := fun k_ => (w.heap.size ≤ k_)) ho1 (below_size (by repeat (first | (with_reducible first | exact HB.out | apply below_alloc | apply pw_below_drewN | apply below_drew1 | refine below_set ?_ GE318.out | refine below_set ?_ GE319.out | refine below_set ?_ GE345.out | refine below_set ?_ GE354.out) | exact HB.out))) (fun k_ h_ => h_)) (Kd.R_lt (by (with_reducible repeat (first | apply Kd.R_alloc | apply Kd.R_drewN | apply Kd.R_drew)); exact (Kd.R_mono (Kd.R_far (p := ⟨gb345, 2, none⟩) (Kd.R_far (p := ⟨gb345, 1, none⟩) (Kd.R_far (p := ⟨gb345, 0, none⟩) (Kd.R_types HO359.out BK345.out (by decide)) (fun _ hk => hk.2) (.int .i64 t356)) (fun _ hk => hk.2) (.slice Ao100 t357.length co100)) (fun _ hk => hk.2) (.slice Ao101 t360.length co101)) (fun _ h_ => h_.1))))) (Kd.R_lt (by (with_reducible repeat (first | apply Kd.R_alloc | apply Kd.R_drewN | apply Kd.R_drew)); exact (Kd.R_mono (Kd.R_far (p := ⟨gb345, 2, none⟩) (Kd.R_far (p := ⟨gb345, 1, none⟩) (Kd.R_far (p := ⟨gb345, 0, none⟩) (Kd.R_types HO362.out BK345.out (by decide)) (fun _ hk => hk.2) (.int .i64 t356)) (fun _ hk => hk.2) (.slice Ao100 t357.length co100)) (fun _ hk => hk.2) (.slice Ao101 t360.length co101)) (fun _ h_ => h_.1))))) (below_size (by repeat (first | (with_reducible first | exact HB.out | apply below_alloc | apply pw_below_drewN | apply below_drew1 | refine below_set ?_ GE318.out | refine below_set ?_ GE319.out | refine below_set ?_ GE345.out | refine below_set ?_ GE354.out) | exact HB.out)))); have n8_ := Aside0.mk (blk_below (g := gb318) (o := .cells #[.int .i64 a0_0, .slice A0_1 l0_1.length c0_1, .slice A0_2 l0_2.length c0_2] 24 (0, 0)) (by (with_reducible repeat (first | refine blk_drewN ?_ _ | refine blk_drew ?_ | refine blk_alloc ?_ _)); refine blk_far ?_ NB318_345.out _; (with_reducible repeat (first | refine blk_drewN ?_ _ | refine blk_drew ?_ | refine blk_alloc ?_ _)); refine blk_far ?_ NB318_345.out _; (with_reducible repeat (first | refine blk_drewN ?_ _ | refine blk_drew ?_ | refine blk_alloc ?_ _)); refine blk_far ?_ NB318_345.out _; (with_reducible repeat (first | refine blk_drewN ?_ _ | refine blk_drew ?_ | refine blk_alloc ?_ _)); exact BK318.out) hb); have n9_ := Aside0.mk (blk_below (g := gb319) (o := .cells #[.int .i64 x320000_5, .slice Ao59 x320001_5.length co59, .slice Ao60 x320002_5.length co60] 24 (0, 0)) (by (with_reducible repeat (first | refine blk_drewN ?_ _ | refine blk_drew ?_ | refine blk_alloc ?_ _)); refine blk_far ?_ NB319_345.out _; (with_reducible repeat (first | refine blk_drewN ?_ _ | refine blk_drew ?_ | refine blk_alloc ?_ _)); refine blk_far ?_ NB319_345.out _; (with_reducible repeat (first | refine blk_drewN ?_ _ | refine blk_drew ?_ | refine blk_alloc ?_ _)); refine blk_far ?_ NB319_345.out _; (with_reducible repeat (first | refine blk_drewN ?_ _ | refine blk_drew ?_ | refine blk_alloc ?_ _)); exact BK319.out) hb); have n10_ := Aside0.mk (blk_below (g := gb345) (o := .cells #[.int .i64 t356, .slice Ao100 t357.length co100, .slice Ao101 t360.length co101] 24 (0, 0)) (by (with_reducible repeat (first | refine blk_drewN ?_ _ | refine blk_drew ?_ | refine blk_alloc ?_ _)); refine blk_put (cs := #[.int .i64 t356, .slice Ao100 t357.length co100, .slice Ao67 t341.length co67]) ?_ 2 _ rfl; (with_reducible repeat (first | refine blk_drewN ?_ _ | refine blk_drew ?_ | refine blk_alloc ?_ _)); refine blk_put (cs := #[.int .i64 t356, .slice Ao66 t338.length co66, .slice Ao67 t341.length co67]) ?_ 1 _ rfl; (with_reducible repeat (first | refine blk_drewN ?_ _ | refine blk_drew ?_ | refine blk_alloc ?_ _)); refine blk_put (cs := #[.int .i64 t337, .slice Ao66 t338.length co66, .slice Ao67 t341.length co67]) ?_ 0 _ rfl; (with_reducible repeat (first | refine blk_drewN ?_ _ | refine blk_drew ?_ | refine blk_alloc ?_ _)); exact BK345.out) hb); have n11_ := Aside0.mk (blk_below (g := gb354) (o := .cells #[.int .i64 t346, .slice Ao76 t347.length co76, .slice Ao77 t350.length co77] 24 (0, 0)) (by (with_reducible repeat (first | refine blk_drewN ?_ _ | refine blk_drew ?_ | refine blk_alloc ?_ _)); refine blk_far ?_ NB354_345.out _; (with_reducible repeat (first | refine blk_drewN ?_ _ | refine blk_drew ?_ | refine blk_alloc ?_ _)); refine blk_far ?_ NB354_345.out _; (with_reducible repeat (first | refine blk_drewN ?_ _ | refine blk_drew ?_ | refine blk_alloc ?_ _)); refine blk_far ?_ NB354_345.out _; (with_reducible repeat (first | refine blk_drewN ?_ _ | refine blk_drew ?_ | refine blk_alloc ?_ _)); exact BK354.out) hb); have n12_ := Aside0.mk (below_step (by repeat (first | (with_reducible first | exact HB.out | apply below_alloc | apply pw_below_drewN | apply below_drew1 | refine below_set ?_ GE318.out | refine below_set ?_ GE319.out | refine below_set ?_ GE345.out | refine below_set ?_ GE354.out) | exact HB.out)) hb); clear HO_319001; clear HO_319002; clear HO_320001; clear HO_320002; clear HO359; clear HO362; clear BK318; clear BK319; clear BK345; clear BK354; clear HB; have HO_319001 := n0_; have HO_319002 := n1_; have HO_320001 := n2_; have HO_320002 := n3_; have HO359 := n4_; have HO362 := n5_; have HO368 := n6_; have HO371 := n7_; have BK318 := n8_; have BK319 := n9_; have BK345 := n10_; have BK354 := n11_; have HB := n12_; clear n0_ n1_ n2_ n3_ n4_ n5_ n6_ n7_ n8_ n9_ n10_ n11_ n12_; (try clear hb); (try clear hb2); (try clear hk); (try clear hi); (try clear ho0); (try clear ho1); have hnb104 := NB354_318.out; have hnc104 := NB318_354.out; have hcz105_0 : w103.cell? ⟨gb354, 0, none⟩ = some (.int .i64 t346) := (blk_cell BK354.out 0).trans rfl; have hcz105_1 : w103.cell? ⟨gb354, 1, none⟩ = some (.slice Ao76 t347.length co76) := (blk_cell BK354.out 1).trans rfl; have hcz105_2 : w103.cell? ⟨gb354, 2, none⟩ = some (.slice Ao77 t350.length co77) := (blk_cell BK354.out 2).trans rfl; have hfz105_0 := blk_frozen BK354.out 0; have hfz105_1 := blk_frozen BK354.out 1; have hfz105_2 := blk_frozen BK354.out 2; obtain ⟨Ao106, co106, eo106⟩ := Kd.R_slice HO368.out; subst eo106; obtain ⟨Ao107, co107, eo107⟩ := Kd.R_slice HO371.out; subst eo107))
          (try simp only [Act.put, List.setIfInBounds_toArray, List.set_cons_zero, List.set_cons_succ])
          go_cut [128] (fun v128 wc => ∃ (kq : Nat) (x128_90 : Bool), v128 = .bool x128_90 ∧ Aside0 (customslaw38_ChannelSteps.j5 kq x1_5 x2_5 x128_90 x320000_5 x320001_5 x320002_5 = some true) ∧ Aside0 (kq ≤ kj55) ∧ Aside0 (Kd.V (Kd.int .i64) 3 wc w.heap.size (fun k_ => ((P0_1_ k_ ∨ P0_2_ k_) ∨ w.heap.size ≤ k_) ∧ some k_ ≠ ((.slice Ao100 t357.length co100) : Value).ownBlock ∧ some k_ ≠ ((.slice Ao101 t360.length co101) : Value).ownBlock ∧ some k_ ≠ ((.slice Ao106 t366.length co106) : Value).ownBlock ∧ some k_ ≠ ((.slice Ao107 t369.length co107) : Value).ownBlock ∧ k_ ≠ gb318 ∧ k_ ≠ gb319 ∧ k_ ≠ gb345 ∧ k_ ≠ gb354) (.slice A0_1 l0_1.length c0_1) l0_1) ∧ Aside0 (Kd.V (Kd.int .i64) 3 wc w.heap.size (fun k_ => ((P0_1_ k_ ∨ P0_2_ k_) ∨ w.heap.size ≤ k_) ∧ some k_ ≠ ((.slice Ao100 t357.length co100) : Value).ownBlock ∧ some k_ ≠ ((.slice Ao101 t360.length co101) : Value).ownBlock ∧ some k_ ≠ ((.slice Ao106 t366.length co106) : Value).ownBlock ∧ some k_ ≠ ((.slice Ao107 t369.length co107) : Value).ownBlock ∧ k_ ≠ gb318 ∧ k_ ≠ gb319 ∧ k_ ≠ gb345 ∧ k_ ≠ gb354) (.slice A0_2 l0_2.length c0_2) l0_2) ∧ Aside0 (Kd.V (Kd.int .i64) 3 wc w.heap.size (fun k_ => ((P0_1_ k_ ∨ P0_2_ k_) ∨ w.heap.size ≤ k_) ∧ some k_ ≠ ((.slice Ao100 t357.length co100) : Value).ownBlock ∧ some k_ ≠ ((.slice Ao101 t360.length co101) : Value).ownBlock ∧ some k_ ≠ ((.slice Ao106 t366.length co106) : Value).ownBlock ∧ some k_ ≠ ((.slice Ao107 t369.length co107) : Value).ownBlock ∧ k_ ≠ gb318 ∧ k_ ≠ gb319 ∧ k_ ≠ gb345 ∧ k_ ≠ gb354) (.slice Ao59 x320001_5.length co59) x320001_5) ∧ Aside0 (Kd.V (Kd.int .i64) 3 wc w.heap.size (fun k_ => ((P0_1_ k_ ∨ P0_2_ k_) ∨ w.heap.size ≤ k_) ∧ some k_ ≠ ((.slice Ao100 t357.length co100) : Value).ownBlock ∧ some k_ ≠ ((.slice Ao101 t360.length co101) : Value).ownBlock ∧ some k_ ≠ ((.slice Ao106 t366.length co106) : Value).ownBlock ∧ some k_ ≠ ((.slice Ao107 t369.length co107) : Value).ownBlock ∧ k_ ≠ gb318 ∧ k_ ≠ gb319 ∧ k_ ≠ gb345 ∧ k_ ≠ gb354) (.slice Ao60 x320002_5.length co60) x320002_5) ∧ Aside0 (Kd.R (Kd.int .i64) 3 wc w.heap.size (fun k_ => (w.heap.size ≤ k_) ∧ some k_ ≠ ((.slice Ao101 t360.length co101) : Value).ownBlock ∧ some k_ ≠ ((.slice Ao106 t366.length co106) : Value).ownBlock ∧ some k_ ≠ ((.slice Ao107 t369.length co107) : Value).ownBlock) (.slice Ao100 t357.length co100) t357) ∧ Aside0 (Kd.R (Kd.int .i64) 3 wc w.heap.size (fun k_ => (w.heap.size ≤ k_) ∧ some k_ ≠ ((.slice Ao100 t357.length co100) : Value).ownBlock ∧ some k_ ≠ ((.slice Ao106 t366.length co106) : Value).ownBlock ∧ some k_ ≠ ((.slice Ao107 t369.length co107) : Value).ownBlock) (.slice Ao101 t360.length co101) t360) ∧ Aside0 (Kd.R (Kd.int .i64) 3 wc w.heap.size (fun k_ => (w.heap.size ≤ k_) ∧ some k_ ≠ ((.slice Ao100 t357.length co100) : Value).ownBlock ∧ some k_ ≠ ((.slice Ao101 t360.length co101) : Value).ownBlock ∧ some k_ ≠ ((.slice Ao107 t369.length co107) : Value).ownBlock) (.slice Ao106 t366.length co106) t366) ∧ Aside0 (Kd.R (Kd.int .i64) 3 wc w.heap.size (fun k_ => (w.heap.size ≤ k_) ∧ some k_ ≠ ((.slice Ao100 t357.length co100) : Value).ownBlock ∧ some k_ ≠ ((.slice Ao101 t360.length co101) : Value).ownBlock ∧ some k_ ≠ ((.slice Ao106 t366.length co106) : Value).ownBlock) (.slice Ao107 t369.length co107) t369) ∧ Aside0 (wc.heap[gb318]? = some (.cells #[.int .i64 a0_0, (.slice A0_1 l0_1.length c0_1), (.slice A0_2 l0_2.length c0_2)] 24 (0, 0))) ∧ Aside0 (wc.heap[gb319]? = some (.cells #[.int .i64 x320000_5, (.slice Ao59 x320001_5.length co59), (.slice Ao60 x320002_5.length co60)] 24 (0, 0))) ∧ Aside0 (wc.heap[gb345]? = some (.cells #[.int .i64 t356, (.slice Ao100 t357.length co100), (.slice Ao101 t360.length co101)] 24 (0, 0))) ∧ Aside0 (wc.heap[gb354]? = some (.cells #[.int .i64 t365, (.slice Ao106 t366.length co106), (.slice Ao107 t369.length co107)] 24 (0, 0))) ∧ Aside0 (Below w.heap.size w wc))
          case first => as_aux_lemma =>
            have H := HC91.out
            clear HC91
            by_cases c108 : t364 = t373
            · rw [if_pos c108] at H
              have c108b0 : (t364 == t373) = true := beq_iff_eq.mpr c108
              have c108b1 : (t364 != t373) = false := bne_eq_false_iff_eq.mpr c108
              clear c108
              (first | rw [c108b0] | (simp only [i64_w, i32_w]; rw [c108b0]) | skip)
              by_cases c109 : t363 = t372
              · rw [if_pos c109] at H
                have c109b0 : (t363 == t372) = true := beq_iff_eq.mpr c109
                have c109b1 : (t363 != t372) = false := bne_eq_false_iff_eq.mpr c109
                clear c109
                replace H := Option.bind_eq_some_iff.mp H
                obtain ⟨t374, A1100, H⟩ := H
                replace H : (customslaw38_ChannelSteps.j5 kj55 x1_5 x2_5 (!t374) x320000_5 x320001_5 x320002_5) = some true := H
                have A110 := Aside0.mk A1100
                clear A1100
                have H' := Aside0.mk H
                clear H
                have hnb111 := NB345_318.out
                have hnc111 := NB318_345.out
                have hnb112 := NB345_319.out
                have hnc112 := NB319_345.out
                have hnb113 := NB345_354.out
                have hnc113 := NB354_345.out
                have hcz114_0 : w103.cell? ⟨gb345, 0, none⟩ = some (.int .i64 t356) := (blk_cell BK345.out 0).trans rfl
                have hcz114_1 : w103.cell? ⟨gb345, 1, none⟩ = some (.slice Ao100 t357.length co100) := (blk_cell BK345.out 1).trans rfl
                have hcz114_2 : w103.cell? ⟨gb345, 2, none⟩ = some (.slice Ao101 t360.length co101) := (blk_cell BK345.out 2).trans rfl
                have hfz114_0 := blk_frozen BK345.out 0
                have hfz114_1 := blk_frozen BK345.out 1
                have hfz114_2 := blk_frozen BK345.out 2
                have hnb115 := NB354_318.out
                have hnc115 := NB318_354.out
                have hnb116 := NB354_319.out
                have hnc116 := NB319_354.out
                have hcz117_0 : w103.cell? ⟨gb354, 0, none⟩ = some (.int .i64 t346) := (blk_cell BK354.out 0).trans rfl
                have hcz117_1 : w103.cell? ⟨gb354, 1, none⟩ = some (.slice Ao76 t347.length co76) := (blk_cell BK354.out 1).trans rfl
                have hcz117_2 : w103.cell? ⟨gb354, 2, none⟩ = some (.slice Ao77 t350.length co77) := (blk_cell BK354.out 2).trans rfl
                have hfz117_0 := blk_frozen BK354.out 0
                have hfz117_1 := blk_frozen BK354.out 1
                have hfz117_2 := blk_frozen BK354.out 2
                go_wp2_with (first | (go_at_call 10; (with_reducible refine (customsref33_SameLine.calls kj55 t356 _ _ t357 _ _ t360 t365 _ _ t366 _ _ t369 t374 _ ?side1 ?side2 ?side3 ?side4 ?side5 ?side6 ?side7 ?side8 A110.out).mono ?_); (case side1 => refine (Kd.R_reads' (e := 3) (base := w.heap.size) (ok := fun k_ => ((((w.heap.size ≤ k_) ∧ some k_ ≠ (.slice Ao101 t360.length co101 : Value).ownBlock) ∧ some k_ ≠ (.slice Ao106 t366.length co106 : Value).ownBlock) ∧ some k_ ≠ (.slice Ao107 t369.length co107 : Value).ownBlock)) (n := t357.length) (c := co100) ?_).2.2; exact (by (with_reducible repeat (first | apply Kd.R_alloc | apply Kd.R_drewN | apply Kd.R_drew)); exact (Kd.R_mono (Kd.R_far (p := ⟨gb354, 2, none⟩) (Kd.R_far (p := ⟨gb354, 1, none⟩) (Kd.R_far (p := ⟨gb354, 0, none⟩) (Kd.R_types HO359.out BK354.out (by decide)) (fun _ hk => hk.2) (.int .i64 t365)) (fun _ hk => hk.2) (.slice Ao106 t366.length co106)) (fun _ hk => hk.2) (.slice Ao107 t369.length co107)) (fun _ h_ => h_.1)))); (case side2 => exact (Kd.R_reads' HO359.out).2.1); (case side3 => refine (Kd.R_reads' (e := 3) (base := w.heap.size) (ok := fun k_ => ((((w.heap.size ≤ k_) ∧ some k_ ≠ (.slice Ao100 t357.length co100 : Value).ownBlock) ∧ some k_ ≠ (.slice Ao106 t366.length co106 : Value).ownBlock) ∧ some k_ ≠ (.slice Ao107 t369.length co107 : Value).ownBlock)) (n := t360.length) (c := co101) ?_).2.2; exact (by (with_reducible repeat (first | apply Kd.R_alloc | apply Kd.R_drewN | apply Kd.R_drew)); exact (Kd.R_mono (Kd.R_far (p := ⟨gb354, 2, none⟩) (Kd.R_far (p := ⟨gb354, 1, none⟩) (Kd.R_far (p := ⟨gb354, 0, none⟩) (Kd.R_types HO362.out BK354.out (by decide)) (fun _ hk => hk.2) (.int .i64 t365)) (fun _ hk => hk.2) (.slice Ao106 t366.length co106)) (fun _ hk => hk.2) (.slice Ao107 t369.length co107)) (fun _ h_ => h_.1)))); (case side4 => exact (Kd.R_reads' HO362.out).2.1); (case side5 => refine (Kd.R_reads' (e := 3) (base := w.heap.size) (ok := fun k_ => ((((w.heap.size ≤ k_) ∧ some k_ ≠ (.slice Ao107 t369.length co107 : Value).ownBlock) ∧ some k_ ≠ (.slice Ao100 t357.length co100 : Value).ownBlock) ∧ some k_ ≠ (.slice Ao101 t360.length co101 : Value).ownBlock)) (n := t366.length) (c := co106) ?_).2.2; exact (by (with_reducible repeat (first | apply Kd.R_alloc | apply Kd.R_drewN | apply Kd.R_drew)); exact (Kd.R_mono (Kd.R_far (p := ⟨gb354, 2, none⟩) (Kd.R_far (p := ⟨gb354, 1, none⟩) (Kd.R_far (p := ⟨gb354, 0, none⟩) (Kd.R_types HO368.out BK354.out (by decide)) (fun _ hk => hk.2) (.int .i64 t365)) (fun _ hk => hk.2) (.slice Ao106 t366.length co106)) (fun _ hk => hk.2) (.slice Ao107 t369.length co107)) (fun _ h_ => h_.1)))); (case side6 => exact (Kd.R_reads' HO368.out).2.1); (case side7 => refine (Kd.R_reads' (e := 3) (base := w.heap.size) (ok := fun k_ => ((((w.heap.size ≤ k_) ∧ some k_ ≠ (.slice Ao106 t366.length co106 : Value).ownBlock) ∧ some k_ ≠ (.slice Ao100 t357.length co100 : Value).ownBlock) ∧ some k_ ≠ (.slice Ao101 t360.length co101 : Value).ownBlock)) (n := t369.length) (c := co107) ?_).2.2; exact (by (with_reducible repeat (first | apply Kd.R_alloc | apply Kd.R_drewN | apply Kd.R_drew)); exact (Kd.R_mono (Kd.R_far (p := ⟨gb354, 2, none⟩) (Kd.R_far (p := ⟨gb354, 1, none⟩) (Kd.R_far (p := ⟨gb354, 0, none⟩) (Kd.R_types HO371.out BK354.out (by decide)) (fun _ hk => hk.2) (.int .i64 t365)) (fun _ hk => hk.2) (.slice Ao106 t366.length co106)) (fun _ hk => hk.2) (.slice Ao107 t369.length co107)) (fun _ h_ => h_.1)))); (case side8 => exact (Kd.R_reads' HO371.out).2.1); rintro e w118 ⟨rfl, hb⟩; have n0_ := Aside0.mk (Kd.V_below (by (with_reducible repeat (first | apply Kd.V_alloc | apply Kd.V_drewN | apply Kd.V_drew)); exact (Kd.V_mono (Kd.V_far (p := ⟨gb354, 2, none⟩) (Kd.V_far (p := ⟨gb354, 1, none⟩) (Kd.V_far (p := ⟨gb354, 0, none⟩) (Kd.V_mono HO_319001.out (fun k_ hk => (⟨hk, hk.1.1.1.1.2.2.2.2.2.2.2⟩ : _ ∧ k_ ≠ gb354))) (fun _ hk => hk.2) (.int .i64 t365)) (fun _ hk => hk.2) (.slice Ao106 t366.length co106)) (fun _ hk => hk.2) (.slice Ao107 t369.length co107)) (fun _ h_ => h_.1))) hb); have n1_ := Aside0.mk (Kd.V_below (by (with_reducible repeat (first | apply Kd.V_alloc | apply Kd.V_drewN | apply Kd.V_drew)); exact (Kd.V_mono (Kd.V_far (p := ⟨gb354, 2, none⟩) (Kd.V_far (p := ⟨gb354, 1, none⟩) (Kd.V_far (p := ⟨gb354, 0, none⟩) (Kd.V_mono HO_319002.out (fun k_ hk => (⟨hk, hk.1.1.1.1.2.2.2.2.2.2.2⟩ : _ ∧ k_ ≠ gb354))) (fun _ hk => hk.2) (.int .i64 t365)) (fun _ hk => hk.2) (.slice Ao106 t366.length co106)) (fun _ hk => hk.2) (.slice Ao107 t369.length co107)) (fun _ h_ => h_.1))) hb); have n2_ := Aside0.mk (Kd.V_below (by (with_reducible repeat (first | apply Kd.V_alloc | apply Kd.V_drewN | apply Kd.V_drew)); exact (Kd.V_mono (Kd.V_far (p := ⟨gb354, 2, none⟩) (Kd.V_far (p := ⟨gb354, 1, none⟩) (Kd.V_far (p := ⟨gb354, 0, none⟩) (Kd.V_mono HO_320001.out (fun k_ hk => (⟨hk, hk.1.1.1.1.2.2.2.2.2.2.2⟩ : _ ∧ k_ ≠ gb354))) (fun _ hk => hk.2) (.int .i64 t365)) (fun _ hk => hk.2) (.slice Ao106 t366.length co106)) (fun _ hk => hk.2) (.slice Ao107 t369.length co107)) (fun _ h_ => h_.1))) hb); have n3_ := Aside0.mk (Kd.V_below (by (with_reducible repeat (first | apply Kd.V_alloc | apply Kd.V_drewN | apply Kd.V_drew)); exact (Kd.V_mono (Kd.V_far (p := ⟨gb354, 2, none⟩) (Kd.V_far (p := ⟨gb354, 1, none⟩) (Kd.V_far (p := ⟨gb354, 0, none⟩) (Kd.V_mono HO_320002.out (fun k_ hk => (⟨hk, hk.1.1.1.1.2.2.2.2.2.2.2⟩ : _ ∧ k_ ≠ gb354))) (fun _ hk => hk.2) (.int .i64 t365)) (fun _ hk => hk.2) (.slice Ao106 t366.length co106)) (fun _ hk => hk.2) (.slice Ao107 t369.length co107)) (fun _ h_ => h_.1))) hb); have n4_ := Aside0.mk (Kd.R_below (by (with_reducible repeat (first | apply Kd.R_alloc | apply Kd.R_drewN | apply Kd.R_drew)); exact (Kd.R_mono (Kd.R_far (p := ⟨gb354, 2, none⟩) (Kd.R_far (p := ⟨gb354, 1, none⟩) (Kd.R_far (p := ⟨gb354, 0, none⟩) (Kd.R_types HO359.out BK354.out (by decide)) (fun _ hk => hk.2) (.int .i64 t365)) (fun _ hk => hk.2) (.slice Ao106 t366.length co106)) (fun _ hk => hk.2) (.slice Ao107 t369.length co107)) (fun _ h_ => h_.1))) hb); have n5_ := Aside0.mk (Kd.R_below (by (with_reducible repeat (first | apply Kd.R_alloc | apply Kd.R_drewN | apply Kd.R_drew)); exact (Kd.R_mono (Kd.R_far (p := ⟨gb354, 2, none⟩) (Kd.R_far (p := ⟨gb354, 1, none⟩) (Kd.R_far (p := ⟨gb354, 0, none⟩) (Kd.R_types HO362.out BK354.out (by decide)) (fun _ hk => hk.2) (.int .i64 t365)) (fun _ hk => hk.2) (.slice Ao106 t366.length co106)) (fun _ hk => hk.2) (.slice Ao107 t369.length co107)) (fun _ h_ => h_.1))) hb); have n6_ := Aside0.mk (Kd.R_below (by (with_reducible repeat (first | apply Kd.R_alloc | apply Kd.R_drewN | apply Kd.R_drew)); exact (Kd.R_mono (Kd.R_far (p := ⟨gb354, 2, none⟩) (Kd.R_far (p := ⟨gb354, 1, none⟩) (Kd.R_far (p := ⟨gb354, 0, none⟩) (Kd.R_types HO368.out BK354.out (by decide)) (fun _ hk => hk.2) (.int .i64 t365)) (fun _ hk => hk.2) (.slice Ao106 t366.length co106)) (fun _ hk => hk.2) (.slice Ao107 t369.length co107)) (fun _ h_ => h_.1))) hb); have n7_ := Aside0.mk (Kd.R_below (by (with_reducible repeat (first | apply Kd.R_alloc | apply Kd.R_drewN | apply Kd.R_drew)); exact (Kd.R_mono (Kd.R_far (p := ⟨gb354, 2, none⟩) (Kd.R_far (p := ⟨gb354, 1, none⟩) (Kd.R_far (p := ⟨gb354, 0, none⟩) (Kd.R_types HO371.out BK354.out (by decide)) (fun _ hk => hk.2) (.int .i64 t365)) (fun _ hk => hk.2) (.slice Ao106 t366.length co106)) (fun _ hk => hk.2) (.slice Ao107 t369.length co107)) (fun _ h_ => h_.1))) hb); have n8_ := Aside0.mk (blk_below (g := gb318) (o := .cells #[.int .i64 a0_0, .slice A0_1 l0_1.length c0_1, .slice A0_2 l0_2.length c0_2] 24 (0, 0)) (by (with_reducible repeat (first | refine blk_drewN ?_ _ | refine blk_drew ?_ | refine blk_alloc ?_ _)); refine blk_far ?_ NB318_354.out _; (with_reducible repeat (first | refine blk_drewN ?_ _ | refine blk_drew ?_ | refine blk_alloc ?_ _)); refine blk_far ?_ NB318_354.out _; (with_reducible repeat (first | refine blk_drewN ?_ _ | refine blk_drew ?_ | refine blk_alloc ?_ _)); refine blk_far ?_ NB318_354.out _; (with_reducible repeat (first | refine blk_drewN ?_ _ | refine blk_drew ?_ | refine blk_alloc ?_ _)); exact BK318.out) hb); have n9_ := Aside0.mk (blk_below (g := gb319) (o := .cells #[.int .i64 x320000_5, .slice Ao59 x320001_5.length co59, .slice Ao60 x320002_5.length co60] 24 (0, 0)) (by (with_reducible repeat (first | refine blk_drewN ?_ _ | refine blk_drew ?_ | refine blk_alloc ?_ _)); refine blk_far ?_ NB319_354.out _; (with_reducible repeat (first | refine blk_drewN ?_ _ | refine blk_drew ?_ | refine blk_alloc ?_ _)); refine blk_far ?_ NB319_354.out _; (with_reducible repeat (first | refine blk_drewN ?_ _ | refine blk_drew ?_ | refine blk_alloc ?_ _)); refine blk_far ?_ NB319_354.out _; (with_reducible repeat (first | refine blk_drewN ?_ _ | refine blk_drew ?_ | refine blk_alloc ?_ _)); exact BK319.out) hb); have n10_ := Aside0.mk (blk_below (g := gb345) (o := .cells #[.int .i64 t356, .slice Ao100 t357.length co100, .slice Ao101 t360.length co101] 24 (0, 0)) (by (with_reducible repeat (first | refine blk_drewN ?_ _ | refine blk_drew ?_ | refine blk_alloc ?_ _)); refine blk_far ?_ NB345_354.out _; (with_reducible repeat (first | refine blk_drewN ?_ _ | refine blk_drew ?_ | refine blk_alloc ?_ _)); refine blk_far ?_ NB345_354.out _; (with_reducible repeat (first | refine blk_drewN ?_ _ | refine blk_drew ?_ | refine blk_alloc ?_ _)); refine blk_far ?_ NB345_354.out _; (with_reducible repeat (first | refine blk_drewN ?_ _ | refine blk_drew ?_ | refine blk_alloc ?_ _)); exact BK345.out) hb); have n11_ := Aside0.mk (blk_below (g := gb354) (o := .cells #[.int .i64 t365, .slice Ao106 t366.length co106, .slice Ao107 t369.length co107] 24 (0, 0)) (by (with_reducible repeat (first | refine blk_drewN ?_ _ | refine blk_drew ?_ | refine blk_alloc ?_ _)); refine blk_put (cs := #[.int .i64 t365, .slice Ao106 t366.length co106, .slice Ao77 t350.length co77]) ?_ 2 _ rfl; (with_reducible repeat (first | refine blk_drewN ?_ _ | refine blk_drew ?_ | refine blk_alloc ?_ _)); refine blk_put (cs := #[.int .i64 t365, .slice Ao76 t347.length co76, .slice Ao77 t350.length co77]) ?_ 1 _ rfl; (with_reducible repeat (first | refine blk_drewN ?_ _ | refine blk_drew ?_ | refine blk_alloc ?_ _)); refine blk_put (cs := #[.int .i64 t346, .slice Ao76 t347.length co76, .slice Ao77 t350.length co77]) ?_ 0 _ rfl; (with_reducible repeat (first | refine blk_drewN ?_ _ | refine blk_drew ?_ | refine blk_alloc ?_ _)); exact BK354.out) hb); have n12_ := Aside0.mk (below_step (by repeat (first | (with_reducible first | exact HB.out | apply below_alloc | apply pw_below_drewN | apply below_drew1 | refine below_set ?_ GE318.out | refine below_set ?_ GE319.out | refine below_set ?_ GE345.out | refine below_set ?_ GE354.out) | exact HB.out)) hb); clear HO_319001; clear HO_319002; clear HO_320001; clear HO_320002; clear HO359; clear HO362; clear HO368; clear HO371; clear BK318; clear BK319; clear BK345; clear BK354; clear HB; have HO_319001 := n0_; have HO_319002 := n1_; have HO_320001 := n2_; have HO_320002 := n3_; have HO359 := n4_; have HO362 := n5_; have HO368 := n6_; have HO371 := n7_; have BK318 := n8_; have BK319 := n9_; have BK345 := n10_; have BK354 := n11_; have HB := n12_; clear n0_ n1_ n2_ n3_ n4_ n5_ n6_ n7_ n8_ n9_ n10_ n11_ n12_; (try clear hb); (try clear hb2); (try clear hk); (try clear hi)))
                go_meet
                case rel => exact ⟨_, (!t374), (by first | rfl | (simp; done) | (simp [*]; done)), H', ⟨by have := HJ5.out; have := HJ55.out; first | omega | exact Nat.le_refl _⟩, ⟨by exact pV (Kd.V_mono HO_319001.out (fun _ hk => ⟨hk.1.1.1.1.1, ⟨hk.1.1.1.2, ⟨hk.1.1.2, ⟨hk.1.2, ⟨hk.2, ⟨hk.1.1.1.1.2.2.2.2.1, ⟨hk.1.1.1.1.2.2.2.2.2.1, ⟨hk.1.1.1.1.2.2.2.2.2.2.1, hk.1.1.1.1.2.2.2.2.2.2.2⟩⟩⟩⟩⟩⟩⟩⟩))⟩, ⟨by exact pV (Kd.V_mono HO_319002.out (fun _ hk => ⟨hk.1.1.1.1.1, ⟨hk.1.1.1.2, ⟨hk.1.1.2, ⟨hk.1.2, ⟨hk.2, ⟨hk.1.1.1.1.2.2.2.2.1, ⟨hk.1.1.1.1.2.2.2.2.2.1, ⟨hk.1.1.1.1.2.2.2.2.2.2.1, hk.1.1.1.1.2.2.2.2.2.2.2⟩⟩⟩⟩⟩⟩⟩⟩))⟩, ⟨by exact pV (Kd.V_mono HO_320001.out (fun _ hk => ⟨hk.1.1.1.1.1, ⟨hk.1.1.1.2, ⟨hk.1.1.2, ⟨hk.1.2, ⟨hk.2, ⟨hk.1.1.1.1.2.2.2.2.1, ⟨hk.1.1.1.1.2.2.2.2.2.1, ⟨hk.1.1.1.1.2.2.2.2.2.2.1, hk.1.1.1.1.2.2.2.2.2.2.2⟩⟩⟩⟩⟩⟩⟩⟩))⟩, ⟨by exact pV (Kd.V_mono HO_320002.out (fun _ hk => ⟨hk.1.1.1.1.1, ⟨hk.1.1.1.2, ⟨hk.1.1.2, ⟨hk.1.2, ⟨hk.2, ⟨hk.1.1.1.1.2.2.2.2.1, ⟨hk.1.1.1.1.2.2.2.2.2.1, ⟨hk.1.1.1.1.2.2.2.2.2.2.1, hk.1.1.1.1.2.2.2.2.2.2.2⟩⟩⟩⟩⟩⟩⟩⟩))⟩, ⟨by exact pR (Kd.R_mono HO359.out (fun _ hk => ⟨hk.1.1.1, ⟨hk.1.1.2, ⟨hk.1.2, hk.2⟩⟩⟩))⟩, ⟨by exact pR (Kd.R_mono HO362.out (fun _ hk => ⟨hk.1.1.1, ⟨hk.1.1.2, ⟨hk.1.2, hk.2⟩⟩⟩))⟩, ⟨by exact pR (Kd.R_mono HO368.out (fun _ hk => ⟨hk.1.1.1, ⟨hk.1.2, ⟨hk.2, hk.1.1.2⟩⟩⟩))⟩, ⟨by exact pR (Kd.R_mono HO371.out (fun _ hk => ⟨hk.1.1.1, ⟨hk.1.2, ⟨hk.2, hk.1.1.2⟩⟩⟩))⟩, ⟨by exact pK BK318.out⟩, ⟨by exact pK BK319.out⟩, ⟨by exact pK BK345.out⟩, ⟨by exact pK BK354.out⟩, ⟨by exact pB HB.out⟩⟩
              · rw [if_neg c109] at H
                have c109b0 : (t363 == t372) = false := beq_eq_false_iff_ne.mpr c109
                have c109b1 : (t363 != t372) = true := bne_iff_ne.mpr c109
                exact absurd H (by cases kj55 <;> simp [customslaw38_ChannelSteps.j5])
            · rw [if_neg c108] at H
              have c108b0 : (t364 == t373) = false := beq_eq_false_iff_ne.mpr c108
              have c108b1 : (t364 != t373) = true := bne_iff_ne.mpr c108
              (first | rw [c108b0] | (simp only [i64_w, i32_w]; rw [c108b0]) | skip)
              exact absurd H (by cases kj55 <;> simp [customslaw38_ChannelSteps.j5])
          case rest => as_aux_lemma =>
            clear HC91
            obtain ⟨kq, x128_90, rfl, HA, HJ90, HO_319001, HO_319002, HO_320001, HO_320002, HO_346001, HO_346002, HO_355001, HO_355002, BK318, BK319, BK345, BK354, HB⟩ := hcut
            rename_i K1 hK1 K2 hK2
            refine customslaw38_ChannelSteps.tail w gb318 gb319 gb345 gb354 kj5 k kj55 x1_5 x2_5 x320000_5 x320001_5 x320002_5 wc P0_1_ P0_2_ Ao100 t357 co100 Ao101 t360 co101 Ao106 t366 co106 Ao107 t369 co107 A0_1 l0_1 c0_1 A0_2 l0_2 c0_2 Ao59 co59 Ao60 co60 a0_0 t356 t365 x3_5 a4 t364 t373 kq x128_90 _ _ _ _ _ _ _ _ _ _ _ _ _ _ _ _ _ _ _ _ _ _ _ _ _ _ _ _ _ _ _ _ _ _ _ _ _ _ _ _ _ _ _ _ _ _ _ _ _ _ _ _ _ _ _ _ _ _ _ _ _ _ _ _ _ _ _ _ _ _ _ _ _ _ _ _ _ _ _ _ _ _ _ _ _ _ _ _ _ _ _ _ _ _ _ _ _ _ _ _ _ _ _ _ _ _ _ _ _ _ _ _ _ _ _ _ _ _ _ _ _ _ _ _ _ _ _ _ _ _ _ _ _ _ _ _ _ _ _ _ _ _ _ _ _ _ _ _ _ _ _ _ _ _ _ _ _ _ _ _ _ _ _ _ _ _ _ _ _ _ _ _ _ _ _ _ _ _ _ _ _ _ _ _ _ _ _ _ _ _ _ _ _ _ _ _ _ _ _ _ _ _ _ _ _ _ _ _ _ _ _ GE318 GE319 GE345 GE354 NB318_319 NB318_345 NB318_354 NB319_318 NB319_345 NB319_354 NB345_318 NB345_319 NB345_354 NB354_318 NB354_319 NB354_345 HJ5 HJ55 HA HJ90 HO_319001 HO_319002 HO_320001 HO_320002 HO_346001 HO_346002 HO_355001 HO_355002 BK318 BK319 BK345 BK354 HB K1 K2 ?h1 ?h2
            case h2 => exact hK2
            case h1 => exact hK1
end Go.Proofs.Ytlhmgigjbeefbaa.PChannelSteps
