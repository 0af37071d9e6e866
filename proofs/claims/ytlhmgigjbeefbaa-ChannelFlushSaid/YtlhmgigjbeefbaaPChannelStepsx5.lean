-- Printed by a patched copy of the kit's printer (wip/prt); nothing here is trusted, Lean checks it.
import Derived.Test.YtlhmgigjbeefbaaPChannelStepsx0
import Derived.Test.YtlhmgigjbeefbaaPChannelStepsx1
import Derived.Test.YtlhmgigjbeefbaaPChannelStepsx3
namespace Go.Proofs.Ytlhmgigjbeefbaa.PChannelSteps
open Go.RowKit Go.Proofs.YtlhmgigjbeefbaaW.PrintWords Go.Proofs.YtlhmgigjbeefbaaW.PrintLast Go.Proofs.YtlhmgigjbeefbaaW.PrintMore
attribute [local go_sem] max2_int min2_int max_two min_two max_three min_three max_four min_four   -- for this text's walks alone
set_option linter.unusedVariables false
set_option linter.unusedSimpArgs false

/-! ### channel_Lose: function 17 -/
def channel_Lose.f (a0_0 : Int) (l0_1 : List Int) (l0_2 : List Int) (a1 : Int) : Option (Int × List Int × List Int × Int) := (channel_at.f l0_1 a1).bind fun t233 => (if t233 = true then ((channel_copyLine.f a0_0 l0_1 l0_2).bind fun bt234 => ((slices_Delete_int_int.f bt234.2.1 a1 (wrap64 (a1 + 1))).bind fun t241 => (some (bt234.1, t241, bt234.2.2, 0)))) else (some (0, ([] : List Int), ([] : List Int), 2)))
set_option maxHeartbeats 8000000 in
set_option maxRecDepth 100000 in
theorem channel_Lose.calls (a0_0 : Int) (A0_1 : Option Addr) (c0_1 : Nat) (l0_1 : List Int) (A0_2 : Option Addr) (c0_2 : Nat) (l0_2 : List Int) (a1 : Int) (r1 : Int) (r2 : List Int) (r3 : List Int) (r4 : Int) (w : World) (hr0_1 : Kd.C (Kd.int .i64) w A0_1 l0_1.length l0_1) (hc0_1 : l0_1.length ≤ c0_1) (hr0_2 : Kd.C (Kd.int .i64) w A0_2 l0_2.length l0_2) (hc0_2 : l0_2.length ≤ c0_2) (h : channel_Lose.f a0_0 l0_1 l0_2 a1 = some (r1, r2, r3, r4)) :
    Calls Try.prog 17 #[.agg #[.int .i64 a0_0, .slice A0_1 l0_1.length c0_1, .slice A0_2 l0_2.length c0_2], .int .i64 a1] w fun e w' => ∃ v1_ v2_ : Value, e = .returned (.tuple #[.agg #[.int .i64 r1, v1_, v2_], .int .i64 r4]) ∧ Kd.R (Kd.int .i64) 3 w' w.heap.size (fun k_ => some k_ ≠ (v2_ : Value).ownBlock) v1_ r2 ∧ Kd.R (Kd.int .i64) 3 w' w.heap.size (fun k_ => some k_ ≠ (v1_ : Value).ownBlock) v2_ r3 ∧ Below w.heap.size w w' := by
  have hu24 := Try.underlying24
  have HR0_1 := Aside0.mk hr0_1
  have HC0_1 := Aside0.mk hc0_1
  clear hr0_1 hc0_1
  have HR0_2 := Aside0.mk hr0_2
  have HC0_2 := Aside0.mk hc0_2
  clear hr0_2 hc0_2
  have HB := Aside0.mk (Below.refl w.heap.size w)
  have H : ((channel_at.f l0_1 a1).bind fun t233 => (if t233 = true then ((channel_copyLine.f a0_0 l0_1 l0_2).bind fun bt234 => ((slices_Delete_int_int.f bt234.2.1 a1 (wrap64 (a1 + 1))).bind fun t241 => (some (bt234.1, t241, bt234.2.2, 0)))) else (some (0, ([] : List Int), ([] : List Int), 2)))) = some (r1, r2, r3, r4) := h
  clear h
  replace H := Option.bind_eq_some_iff.mp H
  obtain ⟨t233, A30, H⟩ := H
  replace H : (if t233 = true then ((channel_copyLine.f a0_0 l0_1 l0_2).bind fun bt234 => ((slices_Delete_int_int.f bt234.2.1 a1 (wrap64 (a1 + 1))).bind fun t241 => (some (bt234.1, t241, bt234.2.2, 0)))) else (some (0, ([] : List Int), ([] : List Int), 2))) = some (r1, r2, r3, r4) := H
  have A3 := Aside0.mk A30
  clear A30
  by_cases c4 : t233 = true
  · subst c4
    have H1 : ((channel_copyLine.f a0_0 l0_1 l0_2).bind fun bt234 => ((slices_Delete_int_int.f bt234.2.1 a1 (wrap64 (a1 + 1))).bind fun t241 => (some (bt234.1, t241, bt234.2.2, 0)))) = some (r1, r2, r3, r4) := by rw [if_pos rfl] at H; exact H
    clear H
    have H := H1
    clear H1
    replace H := Option.bind_eq_some_iff.mp H
    obtain ⟨⟨t234, t235, t238⟩, A50, H⟩ := H
    replace H : ((slices_Delete_int_int.f t235 a1 (wrap64 (a1 + 1))).bind fun t241 => (some (t234, t241, t238, 0))) = some (r1, r2, r3, r4) := H
    have A5 := Aside0.mk A50
    clear A50
    replace H := Option.bind_eq_some_iff.mp H
    obtain ⟨t241, A60, H⟩ := H
    replace H : (some (t234, t241, t238, 0)) = some (r1, r2, r3, r4) := H
    have A6 := Aside0.mk A60
    clear A60
    simp only [Option.some.injEq, Prod.mk.injEq] at H
    obtain ⟨rfl, rfl, rfl, rfl⟩ := H
    go_enter Try.func17, Try.ntmps17
    go_wp2_with (first | ((with_reducible refine gate_dst (N := 2) rfl ?_); refine box_event ?hg (N := 2) ?hd (cs := #[.int .i64 a0_0, .slice A0_1 l0_1.length c0_1, .slice A0_2 l0_2.length c0_2]) (t := 24) ?hr ?_; (case hd => rfl); (case hg => rfl); (case hr => first | (go_simp; done) | (go_simp; rfl)); intro gb231 hg w7 hbox hb; have n0_ := Aside0.mk (below_step (by exact pB HB.out) hb); have n1_ := Aside0.mk (hbox); have n2_ := Aside0.mk ((by rw [hg]; exact (below_size (by exact pB HB.out)) : w.heap.size ≤ gb231)); have n3_ := Aside0.mk ((by rw [hg]; exact (below_size (by exact pB HB.out)) : w.heap.size ≤ gb231)); clear HB; have HB := n0_; have BK231 := n1_; have GW231 := n2_; have GE231 := n3_; clear n0_ n1_ n2_ n3_; clear hb hbox hg) | ((with_reducible refine gate_dst (N := 4) rfl ?_); refine box_event ?hg (N := 4) ?hd (cs := #[.int .i64 0, .slice none 0 0, .slice none 0 0]) (t := 24) ?hr ?_; (case hd => rfl); (case hg => rfl); (case hr => first | (go_simp; done) | (go_simp; rfl)); intro gb232 hg w8 hbox hb; have n0_ := Aside0.mk (blk_below (g := gb231) (o := .cells #[.int .i64 a0_0, .slice A0_1 l0_1.length c0_1, .slice A0_2 l0_2.length c0_2] 24 (0, 0)) (by exact pK BK231.out) hb); have n1_ := Aside0.mk (below_step (by exact pB HB.out) hb); have n2_ := Aside0.mk (hbox); have n3_ := Aside0.mk ((by rw [hg]; exact (below_size (by exact pB HB.out)) : w.heap.size ≤ gb232)); have n4_ := Aside0.mk ((by rw [hg]; exact (below_size (by exact pB HB.out)) : w.heap.size ≤ gb232)); have n5_ := Aside0.mk ((by rw [hg]; exact Nat.ne_of_lt (blk_lt (g := gb231) (o := .cells #[.int .i64 a0_0, .slice A0_1 l0_1.length c0_1, .slice A0_2 l0_2.length c0_2] 24 (0, 0)) (by exact pK BK231.out)) : gb231 ≠ gb232)); have n6_ := Aside0.mk ((by rw [hg]; exact Nat.ne_of_gt (blk_lt (g := gb231) (o := .cells #[.int .i64 a0_0, .slice A0_1 l0_1.length c0_1, .slice A0_2 l0_2.length c0_2] 24 (0, 0)) (by exact pK BK231.out)) : gb232 ≠ gb231)); clear BK231; clear HB; have BK231 := n0_; have HB := n1_; have BK232 := n2_; have GW232 := n3_; have GE232 := n4_; have NB231_232 := n5_; have NB232_231 := n6_; clear n0_ n1_ n2_ n3_ n4_ n5_ n6_; clear hb hbox hg; have hnb9 := NB231_232.out; have hnc9 := NB232_231.out; have hcz10_0 : w8.cell? ⟨gb231, 0, none⟩ = some (.int .i64 a0_0) := (blk_cell BK231.out 0).trans rfl; have hcz10_1 : w8.cell? ⟨gb231, 1, none⟩ = some (.slice A0_1 l0_1.length c0_1) := (blk_cell BK231.out 1).trans rfl; have hcz10_2 : w8.cell? ⟨gb231, 2, none⟩ = some (.slice A0_2 l0_2.length c0_2) := (blk_cell BK231.out 2).trans rfl; have hfz10_0 := blk_frozen BK231.out 0; have hfz10_1 := blk_frozen BK231.out 1; have hfz10_2 := blk_frozen BK231.out 2) | ((with_reducible refine gate_callee (f := 33) rfl ?_); refine goesL_ (some 9) rfl rfl Try.func33 (by kernel_rfl) rfl #[.slice A0_1 l0_1.length c0_1, .int .i64 a1] rfl (by (try simp only [List.map_toArray, List.map_cons, List.map_nil]); first | done | rfl | (simp only [List.length_drop, List.length_take]; rfl)) ?_; (with_reducible refine (channel_at.calls _ _ l0_1 a1 true _ ?side1 ?side2 A3.out).mono ?_); (case side1 => exact pC (Kd.C_below HR0_1.out HB.out)); (case side2 => exact HC0_1.out); rintro e w' ⟨rfl, ⟨nd, rfl⟩⟩; refine ⟨_, rfl, ?_⟩; (try (rw [drewN_self w8]; generalize hq_ : World.drewN w8 _ = w8; have n0_ : Aside0 (w8.heap[gb231]? = some (.cells #[.int .i64 a0_0, .slice A0_1 l0_1.length c0_1, .slice A0_2 l0_2.length c0_2] 24 (0, 0))) := ⟨by rw [← hq_]; exact (by exact pK BK231.out)⟩; have n1_ : Aside0 (w8.heap[gb232]? = some (.cells #[.int .i64 0, .slice none 0 0, .slice none 0 0] 24 (0, 0))) := ⟨by rw [← hq_]; exact (by exact pK BK232.out)⟩; have n2_ : Aside0 (Below w.heap.size w w8) := ⟨by rw [← hq_]; exact (by exact pB HB.out)⟩; clear BK231 BK232 HB hq_; have BK231 := n0_; have BK232 := n1_; have HB := n2_; clear n0_ n1_ n2_)); have hcz11_0 : w8.cell? ⟨gb231, 0, none⟩ = some (.int .i64 a0_0) := (blk_cell BK231.out 0).trans rfl; have hcz11_1 : w8.cell? ⟨gb231, 1, none⟩ = some (.slice A0_1 l0_1.length c0_1) := (blk_cell BK231.out 1).trans rfl; have hcz11_2 : w8.cell? ⟨gb231, 2, none⟩ = some (.slice A0_2 l0_2.length c0_2) := (blk_cell BK231.out 2).trans rfl; have hfz11_0 := blk_frozen BK231.out 0; have hfz11_1 := blk_frozen BK231.out 1; have hfz11_2 := blk_frozen BK231.out 2) | ((with_reducible refine gate_callee (f := 32) rfl ?_); refine goesL_ (some 13) rfl rfl Try.func32 (by kernel_rfl) rfl #[.agg #[.int .i64 a0_0, .slice A0_1 l0_1.length c0_1, .slice A0_2 l0_2.length c0_2]] rfl (by (try simp only [List.map_toArray, List.map_cons, List.map_nil]); first | done | rfl | (simp only [List.length_drop, List.length_take]; rfl)) ?_; (with_reducible refine (channel_copyLine.calls a0_0 _ _ l0_1 _ _ l0_2 t234 t235 t238 _ ?side1 ?side2 ?side3 ?side4 A5.out).mono ?_); (case side1 => exact pC (Kd.C_below HR0_1.out HB.out)); (case side2 => exact HC0_1.out); (case side3 => exact pC (Kd.C_below HR0_2.out HB.out)); (case side4 => exact HC0_2.out); rintro e w12 ⟨v236, v239, rfl, ho0, ho1, hb⟩; refine ⟨_, rfl, ?_⟩; have n0_ := Aside0.mk (Kd.R_lower ho0 (below_size (by exact pB HB.out))); have n1_ := Aside0.mk (Kd.R_lower ho1 (below_size (by exact pB HB.out))); have n2_ := Aside0.mk (blk_below (g := gb231) (o := .cells #[.int .i64 a0_0, .slice A0_1 l0_1.length c0_1, .slice A0_2 l0_2.length c0_2] 24 (0, 0)) (by exact pK BK231.out) hb); have n3_ := Aside0.mk (blk_below (g := gb232) (o := .cells #[.int .i64 0, .slice none 0 0, .slice none 0 0] 24 (0, 0)) (by exact pK BK232.out) hb); have n4_ := Aside0.mk (below_step (by exact pB HB.out) hb); clear BK231; clear BK232; clear HB; have HO237 := n0_; have HO240 := n1_; have BK231 := n2_; have BK232 := n3_; have HB := n4_; clear n0_ n1_ n2_ n3_ n4_; (try clear hb); (try clear hb2); (try clear hk); (try clear hi); (try clear ho0); (try clear ho1); have hcz13_0 : w12.cell? ⟨gb231, 0, none⟩ = some (.int .i64 a0_0) := (blk_cell BK231.out 0).trans rfl; have hcz13_1 : w12.cell? ⟨gb231, 1, none⟩ = some (.slice A0_1 l0_1.length c0_1) := (blk_cell BK231.out 1).trans rfl; have hcz13_2 : w12.cell? ⟨gb231, 2, none⟩ = some (.slice A0_2 l0_2.length c0_2) := (blk_cell BK231.out 2).trans rfl; have hfz13_0 := blk_frozen BK231.out 0; have hfz13_1 := blk_frozen BK231.out 1; have hfz13_2 := blk_frozen BK231.out 2; obtain ⟨Ao14, co14, eo14⟩ := Kd.R_slice HO237.out; subst eo14; obtain ⟨Ao15, co15, eo15⟩ := Kd.R_slice HO240.out; subst eo15) | ((with_reducible refine gate_store (t := 24) (p := 2) rfl ?_); refine store_event (t := 24) (p := 2) (v := ?vo_w16) (w1 := (((w12.setCell ⟨gb231, 0, none⟩ (.int .i64 t234)).setCell ⟨gb231, 1, none⟩ (.slice Ao14 t235.length co14)).setCell ⟨gb231, 2, none⟩ (.slice Ao15 t238.length co15))) ?hg ?ho ?hn ?hr ?_; (case ho => rfl); (case hg => rfl); (case hn => rfl); (case hr => first | (go_simp; done) | (go_simp; rfl)); intro w16 hw; have n0_ : Aside0 (Kd.R (Kd.int .i64) 3 w16 w.heap.size (fun k_ => some k_ ≠ (.slice Ao15 t238.length co15 : Value).ownBlock) (.slice Ao14 t235.length co14) t235) := ⟨(by rw [hw]; exact (by (with_reducible repeat (first | apply Kd.R_alloc | apply Kd.R_drewN | apply Kd.R_drew)); exact Kd.R_mono (Kd.R_far (p := ⟨gb231, 2, none⟩) (Kd.R_far (p := ⟨gb231, 1, none⟩) (Kd.R_far (p := ⟨gb231, 0, none⟩) (Kd.R_types HO237.out BK231.out (by decide)) (fun _ hk => hk.2) (.int .i64 t234)) (fun _ hk => hk.2) (.slice Ao14 t235.length co14)) (fun _ hk => hk.2) (.slice Ao15 t238.length co15)) (fun _ hk => hk.1)))⟩; have n1_ : Aside0 (Kd.R (Kd.int .i64) 3 w16 w.heap.size (fun k_ => some k_ ≠ (.slice Ao14 t235.length co14 : Value).ownBlock) (.slice Ao15 t238.length co15) t238) := ⟨(by rw [hw]; exact (by (with_reducible repeat (first | apply Kd.R_alloc | apply Kd.R_drewN | apply Kd.R_drew)); exact Kd.R_mono (Kd.R_far (p := ⟨gb231, 2, none⟩) (Kd.R_far (p := ⟨gb231, 1, none⟩) (Kd.R_far (p := ⟨gb231, 0, none⟩) (Kd.R_types HO240.out BK231.out (by decide)) (fun _ hk => hk.2) (.int .i64 t234)) (fun _ hk => hk.2) (.slice Ao14 t235.length co14)) (fun _ hk => hk.2) (.slice Ao15 t238.length co15)) (fun _ hk => hk.1)))⟩; have n2_ : Aside0 (w16.heap[gb231]? = some (.cells #[.int .i64 t234, .slice Ao14 t235.length co14, .slice Ao15 t238.length co15] 24 (0, 0))) := ⟨(by rw [hw]; exact (by (with_reducible repeat (first | refine blk_drewN ?_ _ | refine blk_drew ?_ | refine blk_alloc ?_ _)); refine blk_put (cs := #[.int .i64 t234, .slice Ao14 t235.length co14, .slice A0_2 l0_2.length c0_2]) ?_ 2 _ rfl; (with_reducible repeat (first | refine blk_drewN ?_ _ | refine blk_drew ?_ | refine blk_alloc ?_ _)); refine blk_put (cs := #[.int .i64 t234, .slice A0_1 l0_1.length c0_1, .slice A0_2 l0_2.length c0_2]) ?_ 1 _ rfl; (with_reducible repeat (first | refine blk_drewN ?_ _ | refine blk_drew ?_ | refine blk_alloc ?_ _)); refine blk_put (cs := #[.int .i64 a0_0, .slice A0_1 l0_1.length c0_1, .slice A0_2 l0_2.length c0_2]) ?_ 0 _ rfl; (with_reducible repeat (first | refine blk_drewN ?_ _ | refine blk_drew ?_ | refine blk_alloc ?_ _)); exact BK231.out))⟩; have n3_ : Aside0 (w16.heap[gb232]? = some (.cells #[.int .i64 0, .slice none 0 0, .slice none 0 0] 24 (0, 0))) := ⟨(by rw [hw]; exact (by (with_reducible repeat (first | refine blk_drewN ?_ _ | refine blk_drew ?_ | refine blk_alloc ?_ _)); refine blk_far ?_ NB232_231.out _; (with_reducible repeat (first | refine blk_drewN ?_ _ | refine blk_drew ?_ | refine blk_alloc ?_ _)); refine blk_far ?_ NB232_231.out _; (with_reducible repeat (first | refine blk_drewN ?_ _ | refine blk_drew ?_ | refine blk_alloc ?_ _)); refine blk_far ?_ NB232_231.out _; (with_reducible repeat (first | refine blk_drewN ?_ _ | refine blk_drew ?_ | refine blk_alloc ?_ _)); exact BK232.out))⟩; have n4_ : Aside0 (Below w.heap.size w w16) := ⟨(by rw [hw]; exact (by repeat (first | (with_reducible first | exact HB.out | apply below_alloc | apply pw_below_drewN | apply below_drew1 | refine below_set ?_ GE231.out | refine below_set ?_ GE232.out) | exact HB.out)))⟩; clear hw; clear HO237; clear HO240; clear BK231; clear BK232; clear HB; have HO237 := n0_; have HO240 := n1_; have BK231 := n2_; have BK232 := n3_; have HB := n4_; clear n0_ n1_ n2_ n3_ n4_; have hcz17_0 : w16.cell? ⟨gb231, 0, none⟩ = some (.int .i64 t234) := (blk_cell BK231.out 0).trans rfl; have hcz17_1 : w16.cell? ⟨gb231, 1, none⟩ = some (.slice Ao14 t235.length co14) := (blk_cell BK231.out 1).trans rfl; have hcz17_2 : w16.cell? ⟨gb231, 2, none⟩ = some (.slice Ao15 t238.length co15) := (blk_cell BK231.out 2).trans rfl; have hfz17_0 := blk_frozen BK231.out 0; have hfz17_1 := blk_frozen BK231.out 1; have hfz17_2 := blk_frozen BK231.out 2) | ((with_reducible refine gate_callee (f := 34) rfl ?_); refine goesL_ (some 19) rfl rfl Try.func34 (by kernel_rfl) rfl #[.slice Ao14 t235.length co14, .int .i64 a1, .int .i64 (wrap64 (a1 + 1))] rfl (by (try simp only [List.map_toArray, List.map_cons, List.map_nil]); first | done | rfl | (simp only [List.length_drop, List.length_take]; rfl)) ?_; (with_reducible refine (slices_Delete_int_int.calls (fun k_ => some k_ = (.slice Ao14 t235.length co14 : Value).ownBlock) (.slice Ao14 t235.length co14) t235 a1 (wrap64 (a1 + 1)) t241 w _ ?side1 ?side2 A6.out).mono ?_); (case side1 => exact pB HB.out); (case side2 => exact Kd.R_tight rfl HO237.out); rintro e w18 ⟨v242, rfl, ho0, hb, hkp⟩; refine ⟨_, rfl, ?_⟩; have n0_ := Aside0.mk (blk_kept (by exact pK BK231.out) hkp (fun hs_ => (fun e_ => (Kd.R_ne HO237.out BK231.out (by decide)) e_) hs_)); have n1_ := Aside0.mk (blk_kept (by exact pK BK232.out) hkp (fun hs_ => (fun e_ => (Kd.R_ne HO237.out BK232.out (by decide)) e_) hs_)); have n2_ := Aside0.mk (Kd.R_mono (ok' := fun k_ => some k_ ≠ (v242 : Value).ownBlock) (Kd.R_keptB (HO240.out) hkp (fun k_ hk_ hs_ => (hk_) hs_)) (fun k_ hk_ => fun e_ => Or.elim (ho0.1 k_ e_.symm) (fun hs_ => hk_.2.1 hs_) (fun hn_ => Nat.not_le.2 hk_.2.2 hn_))); have n3_ := Aside0.mk (Kd.R_mono (ok' := fun k_ => some k_ ≠ (.slice Ao15 t238.length co15 : Value).ownBlock) ho0 (fun k_ hk_ => Or.elim hk_ (fun hs_ => fun e_ => (((HO240.out).1 k_ e_.symm)) hs_) (fun hn_ => (Kd.fresh' (Kd.R_lt (by exact pR HO240.out)) k_ hn_)))); have n4_ := Aside0.mk (hb); clear BK231; clear BK232; clear HO240; clear HB; clear HO237; have BK231 := n0_; have BK232 := n1_; have HO240 := n2_; have HO243 := n3_; have HB := n4_; clear n0_ n1_ n2_ n3_ n4_; (try clear hb); (try clear hkp); (try clear ho0); obtain ⟨Ao19, co19, eo19⟩ := Kd.R_slice HO243.out; subst eo19; have hcz20_0 : w18.cell? ⟨gb231, 0, none⟩ = some (.int .i64 t234) := (blk_cell BK231.out 0).trans rfl; have hcz20_1 : w18.cell? ⟨gb231, 1, none⟩ = some (.slice Ao14 t235.length co14) := (blk_cell BK231.out 1).trans rfl; have hcz20_2 : w18.cell? ⟨gb231, 2, none⟩ = some (.slice Ao15 t238.length co15) := (blk_cell BK231.out 2).trans rfl; have hfz20_0 := blk_frozen BK231.out 0; have hfz20_1 := blk_frozen BK231.out 1; have hfz20_2 := blk_frozen BK231.out 2; have hcz21_0 : w18.cell? ⟨gb232, 0, none⟩ = some (.int .i64 0) := (blk_cell BK232.out 0).trans rfl; have hcz21_1 : w18.cell? ⟨gb232, 1, none⟩ = some (.slice none 0 0) := (blk_cell BK232.out 1).trans rfl; have hcz21_2 : w18.cell? ⟨gb232, 2, none⟩ = some (.slice none 0 0) := (blk_cell BK232.out 2).trans rfl; have hfz21_0 := blk_frozen BK232.out 0; have hfz21_1 := blk_frozen BK232.out 1; have hfz21_2 := blk_frozen BK232.out 2))
    refine bodyPost_ret (results_ct rfl _ _ gb232 24 #[.int .i64 t234, .slice Ao19 t241.length co19, .slice Ao15 t238.length co15] (0, 0) _ rfl (by (with_reducible repeat (first | refine blk_drewN ?_ _ | refine blk_drew ?_ | refine blk_alloc ?_ _)); refine blk_put (cs := #[.int .i64 t234, .slice Ao19 t241.length co19, .slice none 0 0]) ?_ 2 _ rfl; (with_reducible repeat (first | refine blk_drewN ?_ _ | refine blk_drew ?_ | refine blk_alloc ?_ _)); refine blk_put (cs := #[.int .i64 t234, .slice none 0 0, .slice none 0 0]) ?_ 1 _ rfl; (with_reducible repeat (first | refine blk_drewN ?_ _ | refine blk_drew ?_ | refine blk_alloc ?_ _)); refine blk_put (cs := #[.int .i64 0, .slice none 0 0, .slice none 0 0]) ?_ 0 _ rfl; (with_reducible repeat (first | refine blk_drewN ?_ _ | refine blk_drew ?_ | refine blk_alloc ?_ _)); refine blk_far ?_ NB232_231.out _; (with_reducible repeat (first | refine blk_drewN ?_ _ | refine blk_drew ?_ | refine blk_alloc ?_ _)); exact BK232.out) Try.underlying24 rfl (by kernel_rfl)) rfl ?_
    exact ⟨_, _, by first | rfl | (simp [errW_none, errW_some] <;> rfl) | (simp [*, errW_none, errW_some] <;> rfl), by (with_reducible repeat (first | apply Kd.R_alloc | apply Kd.R_drewN | apply Kd.R_drew)); exact Kd.R_mono (Kd.R_far (p := ⟨gb232, 2, none⟩) (Kd.R_far (p := ⟨gb232, 1, none⟩) (Kd.R_far (p := ⟨gb232, 0, none⟩) (Kd.R_far (p := ⟨gb231, 1, none⟩) (Kd.R_types (Kd.R_types HO243.out BK231.out (by decide)) BK232.out (by decide)) (fun _ hk => hk.1.2) (.slice Ao19 t241.length co19)) (fun _ hk => hk.2) (.int .i64 t234)) (fun _ hk => hk.2) (.slice Ao19 t241.length co19)) (fun _ hk => hk.2) (.slice Ao15 t238.length co15)) (fun _ hk => hk.1.1), by (with_reducible repeat (first | apply Kd.R_alloc | apply Kd.R_drewN | apply Kd.R_drew)); exact Kd.R_mono (Kd.R_far (p := ⟨gb232, 2, none⟩) (Kd.R_far (p := ⟨gb232, 1, none⟩) (Kd.R_far (p := ⟨gb232, 0, none⟩) (Kd.R_far (p := ⟨gb231, 1, none⟩) (Kd.R_types (Kd.R_types HO240.out BK231.out (by decide)) BK232.out (by decide)) (fun _ hk => hk.1.2) (.slice Ao19 t241.length co19)) (fun _ hk => hk.2) (.int .i64 t234)) (fun _ hk => hk.2) (.slice Ao19 t241.length co19)) (fun _ hk => hk.2) (.slice Ao15 t238.length co15)) (fun _ hk => hk.1.1), by repeat (first | (with_reducible first | exact HB.out | apply below_alloc | apply pw_below_drewN | apply below_drew1 | refine below_set ?_ GE231.out | refine below_set ?_ GE232.out) | exact HB.out)⟩
  · replace c4 := Bool.eq_false_iff.mpr c4
    subst c4
    have H1 : (some (0, ([] : List Int), ([] : List Int), 2)) = some (r1, r2, r3, r4) := by rw [if_neg (show ¬ (false = true) by decide)] at H; exact H
    clear H
    have H := H1
    clear H1
    simp only [Option.some.injEq, Prod.mk.injEq] at H
    obtain ⟨rfl, rfl, rfl, rfl⟩ := H
    go_enter Try.func17, Try.ntmps17
    go_wp2_with (first | ((with_reducible refine gate_dst (N := 2) rfl ?_); refine box_event ?hg (N := 2) ?hd (cs := #[.int .i64 a0_0, .slice A0_1 l0_1.length c0_1, .slice A0_2 l0_2.length c0_2]) (t := 24) ?hr ?_; (case hd => rfl); (case hg => rfl); (case hr => first | (go_simp; done) | (go_simp; rfl)); intro gb231 hg w22 hbox hb; have n0_ := Aside0.mk (below_step (by exact pB HB.out) hb); have n1_ := Aside0.mk (hbox); have n2_ := Aside0.mk ((by rw [hg]; exact (below_size (by exact pB HB.out)) : w.heap.size ≤ gb231)); have n3_ := Aside0.mk ((by rw [hg]; exact (below_size (by exact pB HB.out)) : w.heap.size ≤ gb231)); clear HB; have HB := n0_; have BK231 := n1_; have GW231 := n2_; have GE231 := n3_; clear n0_ n1_ n2_ n3_; clear hb hbox hg) | ((with_reducible refine gate_dst (N := 4) rfl ?_); refine box_event ?hg (N := 4) ?hd (cs := #[.int .i64 0, .slice none 0 0, .slice none 0 0]) (t := 24) ?hr ?_; (case hd => rfl); (case hg => rfl); (case hr => first | (go_simp; done) | (go_simp; rfl)); intro gb232 hg w23 hbox hb; have n0_ := Aside0.mk (blk_below (g := gb231) (o := .cells #[.int .i64 a0_0, .slice A0_1 l0_1.length c0_1, .slice A0_2 l0_2.length c0_2] 24 (0, 0)) (by exact pK BK231.out) hb); have n1_ := Aside0.mk (below_step (by exact pB HB.out) hb); have n2_ := Aside0.mk (hbox); have n3_ := Aside0.mk ((by rw [hg]; exact (below_size (by exact pB HB.out)) : w.heap.size ≤ gb232)); have n4_ := Aside0.mk ((by rw [hg]; exact (below_size (by exact pB HB.out)) : w.heap.size ≤ gb232)); have n5_ := Aside0.mk ((by rw [hg]; exact Nat.ne_of_lt (blk_lt (g := gb231) (o := .cells #[.int .i64 a0_0, .slice A0_1 l0_1.length c0_1, .slice A0_2 l0_2.length c0_2] 24 (0, 0)) (by exact pK BK231.out)) : gb231 ≠ gb232)); have n6_ := Aside0.mk ((by rw [hg]; exact Nat.ne_of_gt (blk_lt (g := gb231) (o := .cells #[.int .i64 a0_0, .slice A0_1 l0_1.length c0_1, .slice A0_2 l0_2.length c0_2] 24 (0, 0)) (by exact pK BK231.out)) : gb232 ≠ gb231)); clear BK231; clear HB; have BK231 := n0_; have HB := n1_; have BK232 := n2_; have GW232 := n3_; have GE232 := n4_; have NB231_232 := n5_; have NB232_231 := n6_; clear n0_ n1_ n2_ n3_ n4_ n5_ n6_; clear hb hbox hg; have hnb24 := NB231_232.out; have hnc24 := NB232_231.out; have hcz25_0 : w23.cell? ⟨gb231, 0, none⟩ = some (.int .i64 a0_0) := (blk_cell BK231.out 0).trans rfl; have hcz25_1 : w23.cell? ⟨gb231, 1, none⟩ = some (.slice A0_1 l0_1.length c0_1) := (blk_cell BK231.out 1).trans rfl; have hcz25_2 : w23.cell? ⟨gb231, 2, none⟩ = some (.slice A0_2 l0_2.length c0_2) := (blk_cell BK231.out 2).trans rfl; have hfz25_0 := blk_frozen BK231.out 0; have hfz25_1 := blk_frozen BK231.out 1; have hfz25_2 := blk_frozen BK231.out 2) | ((with_reducible refine gate_callee (f := 33) rfl ?_); refine goesL_ (some 9) rfl rfl Try.func33 (by kernel_rfl) rfl #[.slice A0_1 l0_1.length c0_1, .int .i64 a1] rfl (by (try simp only [List.map_toArray, List.map_cons, List.map_nil]); first | done | rfl | (simp only [List.length_drop, List.length_take]; rfl)) ?_; (with_reducible refine (channel_at.calls _ _ l0_1 a1 false _ ?side1 ?side2 A3.out).mono ?_); (case side1 => exact pC (Kd.C_below HR0_1.out HB.out)); (case side2 => exact HC0_1.out); rintro e w' ⟨rfl, ⟨nd, rfl⟩⟩; refine ⟨_, rfl, ?_⟩; (try (rw [drewN_self w23]; generalize hq_ : World.drewN w23 _ = w23; have n0_ : Aside0 (w23.heap[gb232]? = some (.cells #[.int .i64 0, .slice none 0 0, .slice none 0 0] 24 (0, 0))) := ⟨by rw [← hq_]; exact (by exact pK BK232.out)⟩; have n1_ : Aside0 (Below w.heap.size w w23) := ⟨by rw [← hq_]; exact (by exact pB HB.out)⟩; clear BK232 HB hq_; have BK232 := n0_; have HB := n1_; clear n0_ n1_)); have hcz26_0 : w23.cell? ⟨gb232, 0, none⟩ = some (.int .i64 0) := (blk_cell BK232.out 0).trans rfl; have hcz26_1 : w23.cell? ⟨gb232, 1, none⟩ = some (.slice none 0 0) := (blk_cell BK232.out 1).trans rfl; have hcz26_2 : w23.cell? ⟨gb232, 2, none⟩ = some (.slice none 0 0) := (blk_cell BK232.out 2).trans rfl; have hfz26_0 := blk_frozen BK232.out 0; have hfz26_1 := blk_frozen BK232.out 1; have hfz26_2 := blk_frozen BK232.out 2))
    refine bodyPost_ret (results_ct rfl _ _ gb232 24 #[.int .i64 0, .slice none 0 0, .slice none 0 0] (0, 0) _ rfl (by (with_reducible repeat (first | refine blk_drewN ?_ _ | refine blk_drew ?_ | refine blk_alloc ?_ _)); refine blk_put (cs := #[.int .i64 0, .slice none 0 0, .slice none 0 0]) ?_ 2 _ rfl; (with_reducible repeat (first | refine blk_drewN ?_ _ | refine blk_drew ?_ | refine blk_alloc ?_ _)); refine blk_put (cs := #[.int .i64 0, .slice none 0 0, .slice none 0 0]) ?_ 1 _ rfl; (with_reducible repeat (first | refine blk_drewN ?_ _ | refine blk_drew ?_ | refine blk_alloc ?_ _)); refine blk_put (cs := #[.int .i64 0, .slice none 0 0, .slice none 0 0]) ?_ 0 _ rfl; (with_reducible repeat (first | refine blk_drewN ?_ _ | refine blk_drew ?_ | refine blk_alloc ?_ _)); exact BK232.out) Try.underlying24 rfl (by kernel_rfl)) rfl ?_
    exact ⟨_, _, by first | rfl | (simp [errW_none, errW_some] <;> rfl) | (simp [*, errW_none, errW_some] <;> rfl), by first | exact Kd.R_nil _ _ _ _ _ | exact Kd.N_nil _ _ _ _ _ | exact Kd.V_nil _ _ _ _ _ | exact Kd.Q_nil _ _ _ _ _ | exact Kd.S_nil _ _ _ _ _, by first | exact Kd.R_nil _ _ _ _ _ | exact Kd.N_nil _ _ _ _ _ | exact Kd.V_nil _ _ _ _ _ | exact Kd.Q_nil _ _ _ _ _ | exact Kd.S_nil _ _ _ _ _, by repeat (first | (with_reducible first | exact HB.out | apply below_alloc | apply pw_below_drewN | apply below_drew1 | refine below_set ?_ GE232.out) | exact HB.out)⟩

/-! ### customsref33_Lose: function 18 -/
def customsref33_Lose.f (a0_0 : Int) (l0_1 : List Int) (l0_2 : List Int) (a1 : Int) : Option (Int × List Int × List Int × Int) := if a1 < 0 then (some (0, ([] : List Int), ([] : List Int), 2)) else (if a1 ≥ (l0_1.length : Int) then (some (0, ([] : List Int), ([] : List Int), 2)) else ((customsref33_out.f l0_1 a1).bind fun t246 => (some (a0_0, t246, l0_2, 0))))
def customsref33_Lose.T3 : Bool × List (List Nat × List Nat) := (true, [([], []), ([0], [0]), ([], []), ([2], [2]), ([], []), ([3, 4], [3, 4]), ([], []), ([6], [6]), ([1, 5, 7], [1, 5, 7]), ([8, 5, 0, 1, 2, 3, 4, 5, 6, 7, 8], [8]), ([9, 0, 1, 2, 3, 4, 5, 6, 7, 8, 9], [])])
def customsref33_Lose.B3 : List Nat := [0, 1, 0, 4, 0, 28, 0, 64, 255, 511, 1023]
theorem customsref33_Lose.tab3 : rtab .any (opsOf Try.f18 3) = customsref33_Lose.T3 := by kernel_rfl
theorem customsref33_Lose.bits3 : waitsOk customsref33_Lose.T3.2 customsref33_Lose.B3 = true := by kernel_rfl
set_option maxHeartbeats 8000000 in
set_option maxRecDepth 100000 in
theorem customsref33_Lose.calls (a0_0 : Int) (A0_1 : Option Addr) (c0_1 : Nat) (l0_1 : List Int) (P0_2_ : Nat → Prop) (A0_2 : Option Addr) (c0_2 : Nat) (l0_2 : List Int) (a1 : Int) (r1 : Int) (r2 : List Int) (r3 : List Int) (r4 : Int) (w : World) (hr0_1 : Kd.C (Kd.int .i64) w A0_1 l0_1.length l0_1) (hc0_1 : l0_1.length ≤ c0_1) (hs0_2 : Kd.V (Kd.int .i64) 3 w w.heap.size (fun k_ => P0_2_ k_) (.slice A0_2 l0_2.length c0_2) l0_2) (h : customsref33_Lose.f a0_0 l0_1 l0_2 a1 = some (r1, r2, r3, r4)) :
    Calls Try.prog 18 #[.agg #[.int .i64 a0_0, .slice A0_1 l0_1.length c0_1, .slice A0_2 l0_2.length c0_2], .int .i64 a1] w fun e w' => ∃ v1_ v2_ : Value, e = .returned (.tuple #[.agg #[.int .i64 r1, v1_, v2_], .int .i64 r4]) ∧ Kd.R (Kd.int .i64) 3 w' w.heap.size (fun k_ => (w.heap.size ≤ k_)) v1_ r2 ∧ Kd.V (Kd.int .i64) 3 w' w.heap.size (fun k_ => (P0_2_ k_ ∨ w.heap.size ≤ k_) ∧ some k_ ≠ (v1_ : Value).ownBlock) v2_ r3 ∧ Below w.heap.size w w' := by
  have hu24 := Try.underlying24
  have HR0_1 := Aside0.mk hr0_1
  have HC0_1 := Aside0.mk hc0_1
  clear hr0_1 hc0_1
  have HO0_2 := Aside0.mk (show Kd.V (Kd.int .i64) 3 w w.heap.size (fun k_ => (P0_2_ k_ ∨ w.heap.size ≤ k_)) (.slice A0_2 l0_2.length c0_2) l0_2 from Kd.V_mono hs0_2 (fun k_ hk => .inl hk))
  have HB := Aside0.mk (Below.refl w.heap.size w)
  have H : (if a1 < 0 then (some (0, ([] : List Int), ([] : List Int), 2)) else (if a1 ≥ (l0_1.length : Int) then (some (0, ([] : List Int), ([] : List Int), 2)) else ((customsref33_out.f l0_1 a1).bind fun t246 => (some (a0_0, t246, l0_2, 0))))) = some (r1, r2, r3, r4) := h
  clear h
  by_cases c3 : a1 < 0
  · rw [if_pos c3] at H
    have c3b0 : decide (a1 < 0) = true := decide_eq_true c3
    clear c3
    simp only [Option.some.injEq, Prod.mk.injEq] at H
    obtain ⟨rfl, rfl, rfl, rfl⟩ := H
    go_enter Try.func18, Try.ntmps18
    go_wp2_with (first | ((with_reducible refine gate_dst (N := 2) rfl ?_); (try (refine gate_guard (by rfl) ?_; dsimp only)); refine box_event ?hg (N := 2) ?hd (cs := #[.int .i64 a0_0, .slice A0_1 l0_1.length c0_1, .slice A0_2 l0_2.length c0_2]) (t := 24) ?hr ?_; (case hd => rfl); (case hg => rfl); (case hr => first | (go_simp; done) | (go_simp; rfl)); intro gb244 hg w4 hbox hb; have n0_ := Aside0.mk (Kd.V_below (Kd.V_elderB (by exact pV HO0_2.out) gb244 (Nat.le_of_eq hg.symm)) hb); have n1_ := Aside0.mk (below_step (by exact pB HB.out) hb); have n2_ := Aside0.mk (hbox); have n3_ := Aside0.mk ((by rw [hg]; exact (below_size (by exact pB HB.out)) : w.heap.size ≤ gb244)); have n4_ := Aside0.mk ((by rw [hg]; exact (below_size (by exact pB HB.out)) : w.heap.size ≤ gb244)); clear HO0_2; clear HB; have HO0_2 := n0_; have HB := n1_; have BK244 := n2_; have GW244 := n3_; have GE244 := n4_; clear n0_ n1_ n2_ n3_ n4_; clear hb hbox hg) | ((with_reducible refine gate_dst (N := 4) rfl ?_); (try (refine gate_guard (by rfl) ?_; dsimp only)); refine box_event ?hg (N := 4) ?hd (cs := #[.int .i64 0, .slice none 0 0, .slice none 0 0]) (t := 24) ?hr ?_; (case hd => rfl); (case hg => rfl); (case hr => first | (go_simp; done) | (go_simp; rfl)); intro gb245 hg w5 hbox hb; have n0_ := Aside0.mk (below_step (by exact pB HB.out) hb); have n1_ := Aside0.mk (hbox); have n2_ := Aside0.mk ((by rw [hg]; exact (below_size (by exact pB HB.out)) : w.heap.size ≤ gb245)); have n3_ := Aside0.mk ((by rw [hg]; exact (below_size (by exact pB HB.out)) : w.heap.size ≤ gb245)); clear HB; have HB := n0_; have BK245 := n1_; have GW245 := n2_; have GE245 := n3_; clear n0_ n1_ n2_ n3_; clear hb hbox hg; have hcz6_0 : w5.cell? ⟨gb245, 0, none⟩ = some (.int .i64 0) := (blk_cell BK245.out 0).trans rfl; have hcz6_1 : w5.cell? ⟨gb245, 1, none⟩ = some (.slice none 0 0) := (blk_cell BK245.out 1).trans rfl; have hcz6_2 : w5.cell? ⟨gb245, 2, none⟩ = some (.slice none 0 0) := (blk_cell BK245.out 2).trans rfl; have hfz6_0 := blk_frozen BK245.out 0; have hfz6_1 := blk_frozen BK245.out 1; have hfz6_2 := blk_frozen BK245.out 2))
    refine bodyPost_ret (results_ct rfl _ _ gb245 24 #[.int .i64 0, .slice none 0 0, .slice none 0 0] (0, 0) _ rfl (by (with_reducible repeat (first | refine blk_drewN ?_ _ | refine blk_drew ?_ | refine blk_alloc ?_ _)); refine blk_put (cs := #[.int .i64 0, .slice none 0 0, .slice none 0 0]) ?_ 2 _ rfl; (with_reducible repeat (first | refine blk_drewN ?_ _ | refine blk_drew ?_ | refine blk_alloc ?_ _)); refine blk_put (cs := #[.int .i64 0, .slice none 0 0, .slice none 0 0]) ?_ 1 _ rfl; (with_reducible repeat (first | refine blk_drewN ?_ _ | refine blk_drew ?_ | refine blk_alloc ?_ _)); refine blk_put (cs := #[.int .i64 0, .slice none 0 0, .slice none 0 0]) ?_ 0 _ rfl; (with_reducible repeat (first | refine blk_drewN ?_ _ | refine blk_drew ?_ | refine blk_alloc ?_ _)); exact BK245.out) Try.underlying24 rfl (by kernel_rfl)) rfl ?_
    exact ⟨_, _, by first | rfl | (simp [errW_none, errW_some] <;> rfl) | (simp [*, errW_none, errW_some] <;> rfl), by first | exact Kd.R_nil _ _ _ _ _ | exact Kd.N_nil _ _ _ _ _ | exact Kd.V_nil _ _ _ _ _ | exact Kd.Q_nil _ _ _ _ _ | exact Kd.S_nil _ _ _ _ _, by first | exact Kd.R_nil _ _ _ _ _ | exact Kd.N_nil _ _ _ _ _ | exact Kd.V_nil _ _ _ _ _ | exact Kd.Q_nil _ _ _ _ _ | exact Kd.S_nil _ _ _ _ _, by repeat (first | (with_reducible first | exact HB.out | apply below_alloc | apply pw_below_drewN | apply below_drew1 | refine below_set ?_ GE245.out) | exact HB.out)⟩
  · rw [if_neg c3] at H
    have c3b0 : decide (a1 < 0) = false := decide_eq_false c3
    clear c3
    by_cases c7 : a1 ≥ (l0_1.length : Int)
    · rw [if_pos c7] at H
      have c7b0 : decide ((l0_1.length : Int) ≤ a1) = true := decide_eq_true c7
      clear c7
      simp only [Option.some.injEq, Prod.mk.injEq] at H
      obtain ⟨rfl, rfl, rfl, rfl⟩ := H
      go_enter Try.func18, Try.ntmps18
      go_wp2_with (first | ((with_reducible refine gate_dst (N := 2) rfl ?_); (try (refine gate_guard (by rfl) ?_; dsimp only)); refine box_event ?hg (N := 2) ?hd (cs := #[.int .i64 a0_0, .slice A0_1 l0_1.length c0_1, .slice A0_2 l0_2.length c0_2]) (t := 24) ?hr ?_; (case hd => rfl); (case hg => rfl); (case hr => first | (go_simp; done) | (go_simp; rfl)); intro gb244 hg w8 hbox hb; have n0_ := Aside0.mk (Kd.V_below (Kd.V_elderB (by exact pV HO0_2.out) gb244 (Nat.le_of_eq hg.symm)) hb); have n1_ := Aside0.mk (below_step (by exact pB HB.out) hb); have n2_ := Aside0.mk (hbox); have n3_ := Aside0.mk ((by rw [hg]; exact (below_size (by exact pB HB.out)) : w.heap.size ≤ gb244)); have n4_ := Aside0.mk ((by rw [hg]; exact (below_size (by exact pB HB.out)) : w.heap.size ≤ gb244)); clear HO0_2; clear HB; have HO0_2 := n0_; have HB := n1_; have BK244 := n2_; have GW244 := n3_; have GE244 := n4_; clear n0_ n1_ n2_ n3_ n4_; clear hb hbox hg) | ((with_reducible refine gate_dst (N := 4) rfl ?_); (try (refine gate_guard (by rfl) ?_; dsimp only)); refine box_event ?hg (N := 4) ?hd (cs := #[.int .i64 0, .slice none 0 0, .slice none 0 0]) (t := 24) ?hr ?_; (case hd => rfl); (case hg => rfl); (case hr => first | (go_simp; done) | (go_simp; rfl)); intro gb245 hg w9 hbox hb; have n0_ := Aside0.mk (blk_below (g := gb244) (o := .cells #[.int .i64 a0_0, .slice A0_1 l0_1.length c0_1, .slice A0_2 l0_2.length c0_2] 24 (0, 0)) (by exact pK BK244.out) hb); have n1_ := Aside0.mk (below_step (by exact pB HB.out) hb); have n2_ := Aside0.mk (hbox); have n3_ := Aside0.mk ((by rw [hg]; exact (below_size (by exact pB HB.out)) : w.heap.size ≤ gb245)); have n4_ := Aside0.mk ((by rw [hg]; exact (below_size (by exact pB HB.out)) : w.heap.size ≤ gb245)); have n5_ := Aside0.mk ((by rw [hg]; exact Nat.ne_of_lt (blk_lt (g := gb244) (o := .cells #[.int .i64 a0_0, .slice A0_1 l0_1.length c0_1, .slice A0_2 l0_2.length c0_2] 24 (0, 0)) (by exact pK BK244.out)) : gb244 ≠ gb245)); have n6_ := Aside0.mk ((by rw [hg]; exact Nat.ne_of_gt (blk_lt (g := gb244) (o := .cells #[.int .i64 a0_0, .slice A0_1 l0_1.length c0_1, .slice A0_2 l0_2.length c0_2] 24 (0, 0)) (by exact pK BK244.out)) : gb245 ≠ gb244)); clear BK244; clear HB; have BK244 := n0_; have HB := n1_; have BK245 := n2_; have GW245 := n3_; have GE245 := n4_; have NB244_245 := n5_; have NB245_244 := n6_; clear n0_ n1_ n2_ n3_ n4_ n5_ n6_; clear hb hbox hg; have hnb10 := NB244_245.out; have hnc10 := NB245_244.out; have hcz11_0 : w9.cell? ⟨gb244, 0, none⟩ = some (.int .i64 a0_0) := (blk_cell BK244.out 0).trans rfl; have hcz11_1 : w9.cell? ⟨gb244, 1, none⟩ = some (.slice A0_1 l0_1.length c0_1) := (blk_cell BK244.out 1).trans rfl; have hcz11_2 : w9.cell? ⟨gb244, 2, none⟩ = some (.slice A0_2 l0_2.length c0_2) := (blk_cell BK244.out 2).trans rfl; have hfz11_0 := blk_frozen BK244.out 0; have hfz11_1 := blk_frozen BK244.out 1; have hfz11_2 := blk_frozen BK244.out 2; have hcz12_0 : w9.cell? ⟨gb245, 0, none⟩ = some (.int .i64 0) := (blk_cell BK245.out 0).trans rfl; have hcz12_1 : w9.cell? ⟨gb245, 1, none⟩ = some (.slice none 0 0) := (blk_cell BK245.out 1).trans rfl; have hcz12_2 : w9.cell? ⟨gb245, 2, none⟩ = some (.slice none 0 0) := (blk_cell BK245.out 2).trans rfl; have hfz12_0 := blk_frozen BK245.out 0; have hfz12_1 := blk_frozen BK245.out 1; have hfz12_2 := blk_frozen BK245.out 2))
      refine bodyPost_ret (results_ct rfl _ _ gb245 24 #[.int .i64 0, .slice none 0 0, .slice none 0 0] (0, 0) _ rfl (by (with_reducible repeat (first | refine blk_drewN ?_ _ | refine blk_drew ?_ | refine blk_alloc ?_ _)); refine blk_put (cs := #[.int .i64 0, .slice none 0 0, .slice none 0 0]) ?_ 2 _ rfl; (with_reducible repeat (first | refine blk_drewN ?_ _ | refine blk_drew ?_ | refine blk_alloc ?_ _)); refine blk_put (cs := #[.int .i64 0, .slice none 0 0, .slice none 0 0]) ?_ 1 _ rfl; (with_reducible repeat (first | refine blk_drewN ?_ _ | refine blk_drew ?_ | refine blk_alloc ?_ _)); refine blk_put (cs := #[.int .i64 0, .slice none 0 0, .slice none 0 0]) ?_ 0 _ rfl; (with_reducible repeat (first | refine blk_drewN ?_ _ | refine blk_drew ?_ | refine blk_alloc ?_ _)); exact BK245.out) Try.underlying24 rfl (by kernel_rfl)) rfl ?_
      exact ⟨_, _, by first | rfl | (simp [errW_none, errW_some] <;> rfl) | (simp [*, errW_none, errW_some] <;> rfl), by first | exact Kd.R_nil _ _ _ _ _ | exact Kd.N_nil _ _ _ _ _ | exact Kd.V_nil _ _ _ _ _ | exact Kd.Q_nil _ _ _ _ _ | exact Kd.S_nil _ _ _ _ _, by first | exact Kd.R_nil _ _ _ _ _ | exact Kd.N_nil _ _ _ _ _ | exact Kd.V_nil _ _ _ _ _ | exact Kd.Q_nil _ _ _ _ _ | exact Kd.S_nil _ _ _ _ _, by repeat (first | (with_reducible first | exact HB.out | apply below_alloc | apply pw_below_drewN | apply below_drew1 | refine below_set ?_ GE244.out | refine below_set ?_ GE245.out) | exact HB.out)⟩
    · rw [if_neg c7] at H
      have c7b0 : decide ((l0_1.length : Int) ≤ a1) = false := decide_eq_false c7
      clear c7
      replace H := Option.bind_eq_some_iff.mp H
      obtain ⟨t246, A130, H⟩ := H
      replace H : (some (a0_0, t246, l0_2, 0)) = some (r1, r2, r3, r4) := H
      have A13 := Aside0.mk A130
      clear A130
      simp only [Option.some.injEq, Prod.mk.injEq] at H
      obtain ⟨rfl, rfl, rfl, rfl⟩ := H
      go_enter Try.func18, Try.ntmps18
      try go_wp2_with (first | ((with_reducible refine gate_dst (N := 2) rfl ?_); (try (refine gate_guard (by rfl) ?_; dsimp only)); refine box_event ?hg (N := 2) ?hd (cs := #[.int .i64 a0_0, .slice A0_1 l0_1.length c0_1, .slice A0_2 l0_2.length c0_2]) (t := 24) ?hr ?_; (case hd => rfl); (case hg => rfl); (case hr => first | (go_simp; done) | (go_simp; rfl)); intro gb244 hg w14 hbox hb; have n0_ := Aside0.mk (Kd.V_below (Kd.V_elderB (by exact pV HO0_2.out) gb244 (Nat.le_of_eq hg.symm)) hb); have n1_ := Aside0.mk (below_step (by exact pB HB.out) hb); have n2_ := Aside0.mk (hbox); have n3_ := Aside0.mk ((by rw [hg]; exact (below_size (by exact pB HB.out)) : w.heap.size ≤ gb244)); have n4_ := Aside0.mk ((by rw [hg]; exact (below_size (by exact pB HB.out)) : w.heap.size ≤ gb244)); clear HO0_2; clear HB; have HO0_2 := n0_; have HB := n1_; have BK244 := n2_; have GW244 := n3_; have GE244 := n4_; clear n0_ n1_ n2_ n3_ n4_; clear hb hbox hg) | ((with_reducible refine gate_dst (N := 4) rfl ?_); (try (refine gate_guard (by rfl) ?_; dsimp only)); refine box_event ?hg (N := 4) ?hd (cs := #[.int .i64 0, .slice none 0 0, .slice none 0 0]) (t := 24) ?hr ?_; (case hd => rfl); (case hg => rfl); (case hr => first | (go_simp; done) | (go_simp; rfl)); intro gb245 hg w15 hbox hb; have n0_ := Aside0.mk (Kd.V_below (Kd.V_elderB (by exact pV HO0_2.out) gb245 (Nat.le_of_eq hg.symm)) hb); have n1_ := Aside0.mk (blk_below (g := gb244) (o := .cells #[.int .i64 a0_0, .slice A0_1 l0_1.length c0_1, .slice A0_2 l0_2.length c0_2] 24 (0, 0)) (by exact pK BK244.out) hb); have n2_ := Aside0.mk (below_step (by exact pB HB.out) hb); have n3_ := Aside0.mk (hbox); have n4_ := Aside0.mk ((by rw [hg]; exact (below_size (by exact pB HB.out)) : w.heap.size ≤ gb245)); have n5_ := Aside0.mk ((by rw [hg]; exact (below_size (by exact pB HB.out)) : w.heap.size ≤ gb245)); have n6_ := Aside0.mk ((by rw [hg]; exact Nat.ne_of_lt (blk_lt (g := gb244) (o := .cells #[.int .i64 a0_0, .slice A0_1 l0_1.length c0_1, .slice A0_2 l0_2.length c0_2] 24 (0, 0)) (by exact pK BK244.out)) : gb244 ≠ gb245)); have n7_ := Aside0.mk ((by rw [hg]; exact Nat.ne_of_gt (blk_lt (g := gb244) (o := .cells #[.int .i64 a0_0, .slice A0_1 l0_1.length c0_1, .slice A0_2 l0_2.length c0_2] 24 (0, 0)) (by exact pK BK244.out)) : gb245 ≠ gb244)); clear HO0_2; clear BK244; clear HB; have HO0_2 := n0_; have BK244 := n1_; have HB := n2_; have BK245 := n3_; have GW245 := n4_; have GE245 := n5_; have NB244_245 := n6_; have NB245_244 := n7_; clear n0_ n1_ n2_ n3_ n4_ n5_ n6_ n7_; clear hb hbox hg; have hnb16 := NB244_245.out; have hnc16 := NB245_244.out; have hcz17_0 : w15.cell? ⟨gb244, 0, none⟩ = some (.int .i64 a0_0) := (blk_cell BK244.out 0).trans rfl; have hcz17_1 : w15.cell? ⟨gb244, 1, none⟩ = some (.slice A0_1 l0_1.length c0_1) := (blk_cell BK244.out 1).trans rfl; have hcz17_2 : w15.cell? ⟨gb244, 2, none⟩ = some (.slice A0_2 l0_2.length c0_2) := (blk_cell BK244.out 2).trans rfl; have hfz17_0 := blk_frozen BK244.out 0; have hfz17_1 := blk_frozen BK244.out 1; have hfz17_2 := blk_frozen BK244.out 2))
      have n0_ := Aside0.mk (Kd.V_drew HO0_2.out)
      have n1_ := Aside0.mk (blk_drew BK244.out)
      have n2_ := Aside0.mk (blk_drew BK245.out)
      have n3_ := Aside0.mk (below_drew1 HB.out)
      clear HO0_2
      clear BK244
      clear BK245
      clear HB
      have HO0_2 := n0_
      have BK244 := n1_
      have BK245 := n2_
      have HB := n3_
      clear n0_ n1_ n2_ n3_
      refine start_ (n := 11) (S := fun w' => w'.cell? ⟨gb244, 0, none⟩ = some (.int .i64 a0_0) ∧ w'.cell? ⟨gb244, 1, none⟩ = some (.slice A0_1 l0_1.length c0_1) ∧ w'.cell? ⟨gb244, 2, none⟩ = some (.slice A0_2 l0_2.length c0_2)) (ds := []) #[false, false, false, false, false, false, false, false, false, false, false] (by kernel_rfl) rfl rfl ⟨(blk_cell BK244.out 0).trans rfl, (blk_cell BK244.out 1).trans rfl, (blk_cell BK244.out 2).trans rfl⟩ (fun hHeld => ?_); refine with_tabW customsref33_Lose.tab3 customsref33_Lose.bits3 (fun HT_ HW_ => ?_)
      generalize w15.drew = w18 at HO0_2 BK244 BK245 HB hHeld ⊢
      refine pure_ (i := 0) (N := some 16) (v := ?_) (a' := ?_) #[true, false, false, false, false, false, false, false, false, false, false] rfl rfl (any_of HT_.out (by kernel_rfl)) (fun _ _ _ h => h) (Or.inl ⟨by rfl, ?_⟩) ?_ ?_
      rotate_left
      · intro w'
        go_simp
        with_reducible rfl
      rotate_left
      · simp only [Act.put, List.setIfInBounds_toArray, List.set_cons_zero, List.set_cons_succ, i64_w, i32_w]
        rfl
      refine pure_ (i := 2) (N := some 18) (v := ?_) (a' := ?_) #[true, false, true, false, false, false, false, false, false, false, false] rfl rfl (any_of HT_.out (by kernel_rfl)) (fun _ _ _ h => h) (Or.inl ⟨by rfl, ?_⟩) ?_ ?_
      rotate_left
      · intro w'
        go_simp
        with_reducible rfl
      rotate_left
      · simp only [Act.put, List.setIfInBounds_toArray, List.set_cons_zero, List.set_cons_succ, i64_w, i32_w]
        rfl
      refine pure_ (i := 4) (N := some 20) (v := ?_) (a' := ?_) #[true, false, true, false, true, false, false, false, false, false, false] rfl rfl (any_of HT_.out (by kernel_rfl)) (fun _ _ _ h => h) (Or.inl ⟨by rfl, ?_⟩) ?_ ?_
      rotate_left
      · intro w'
        go_simp
        with_reducible rfl
      rotate_left
      · simp only [Act.put, List.setIfInBounds_toArray, List.set_cons_zero, List.set_cons_succ, i64_w, i32_w]
        rfl
      refine pure_ (i := 6) (N := some 22) (v := ?_) (a' := ?_) #[true, false, true, false, true, false, true, false, false, false, false] rfl rfl (any_of HT_.out (by kernel_rfl)) (fun _ _ _ h => h) (Or.inl ⟨by rfl, ?_⟩) ?_ ?_
      rotate_left
      · intro w'
        go_simp
        with_reducible rfl
      rotate_left
      · simp only [Act.put, List.setIfInBounds_toArray, List.set_cons_zero, List.set_cons_succ, i64_w, i32_w]
        rfl
      refine take_ (i := 1) (N := some 17) (v := ?_) (a' := ?_) #[true, true, true, false, true, false, true, false, false, false, false] rfl rfl (take_ofW HT_.out HW_.out (by kernel_rfl)) (fun _ _ _ h => h) (Or.inl ⟨by rfl, ?_⟩) hHeld ?_ ?_
      rotate_left
      · rintro w' ⟨s0, s1, s2⟩
        go_simp
        with_reducible rfl
      rotate_left
      · simp only [Act.put, List.setIfInBounds_toArray, List.set_cons_zero, List.set_cons_succ, i64_w, i32_w]
        rfl
      refine take_ (i := 3) (N := some 19) (v := ?_) (a' := ?_) #[true, true, true, true, true, false, true, false, false, false, false] rfl rfl (take_ofW HT_.out HW_.out (by kernel_rfl)) (fun _ _ _ h => h) (Or.inl ⟨by rfl, ?_⟩) hHeld ?_ ?_
      rotate_left
      · rintro w' ⟨s0, s1, s2⟩
        go_simp
        with_reducible rfl
      rotate_left
      · simp only [Act.put, List.setIfInBounds_toArray, List.set_cons_zero, List.set_cons_succ, i64_w, i32_w]
        rfl
      refine take_ (i := 7) (N := some 23) (v := ?_) (a' := ?_) #[true, true, true, true, true, false, true, true, false, false, false] rfl rfl (take_ofW HT_.out HW_.out (by kernel_rfl)) (fun _ _ _ h => h) (Or.inl ⟨by rfl, ?_⟩) hHeld ?_ ?_
      rotate_left
      · rintro w' ⟨s0, s1, s2⟩
        go_simp
        with_reducible rfl
      rotate_left
      · simp only [Act.put, List.setIfInBounds_toArray, List.set_cons_zero, List.set_cons_succ, i64_w, i32_w]
        rfl
      refine one_ (i := 5) (N := some 21) #[true, true, true, true, true, true, true, true, false, false, false] rfl rfl (one_of HT_.out (by kernel_rfl)) (by decide) (fun K hK => ?_)
      refine goes_ Try.func35 (by kernel_rfl) rfl #[.slice A0_1 l0_1.length c0_1, .int .i64 a1] (by rfl) rfl rfl (by (try simp only [List.map_toArray, List.map_cons, List.map_nil]); first | done | rfl | (simp only [List.length_drop, List.length_take]; rfl)) ?_
      with_reducible refine (customsref33_out.calls _ _ l0_1 a1 t246 _ ?side1 ?side2 A13.out).mono ?_
      (case side1 => exact pC (Kd.C_below HR0_1.out HB.out))
      (case side2 => exact HC0_1.out)
      rintro e w19 ⟨v247, rfl, ho0, hb⟩
      refine ⟨_, rfl, ?_⟩
      have n0_ := Aside0.mk (Kd.V_elder' (by exact pV HO0_2.out) (Kd.R_base ho0) hb)
      have n1_ := Aside0.mk (Kd.R_lower (Kd.R_newM (M := fun k_ => (w.heap.size ≤ k_)) ho0 (below_size (by exact pB HB.out)) (fun k_ h_ => h_)) (below_size (by exact pB HB.out)))
      have n2_ := Aside0.mk (blk_below (g := gb244) (o := .cells #[.int .i64 a0_0, .slice A0_1 l0_1.length c0_1, .slice A0_2 l0_2.length c0_2] 24 (0, 0)) (by exact pK BK244.out) hb)
      have n3_ := Aside0.mk (blk_below (g := gb245) (o := .cells #[.int .i64 0, .slice none 0 0, .slice none 0 0] 24 (0, 0)) (by exact pK BK245.out) hb)
      have n4_ := Aside0.mk (below_step (by exact pB HB.out) hb)
      clear HO0_2
      clear BK244
      clear BK245
      clear HB
      have HO0_2 := n0_
      have HO248 := n1_
      have BK244 := n2_
      have BK245 := n3_
      have HB := n4_
      clear n0_ n1_ n2_ n3_ n4_
      (try clear hb)
      (try clear hb2)
      (try clear hk)
      (try clear hi)
      (try clear ho0)
      obtain ⟨Ao20, co20, eo20⟩ := Kd.R_slice HO248.out
      (first | subst eo20 | (injection eo20 with f1_ f2_ f3_; have f4_ := f1_.symm; have f5_ := f3_.symm; clear f1_ f2_ f3_; subst f4_; subst f5_))
      refine hK.out _ _ ⟨(blk_cell BK244.out 0).trans rfl, (blk_cell BK244.out 1).trans rfl, (blk_cell BK244.out 2).trans rfl⟩ (fun hHeld => ?_)
      clear hK K
      refine norm_ (a' := ?_) ?_ ?_
      rotate_left
      · show Act.put _ (some 21) _ = _
        simp only [Act.put, List.setIfInBounds_toArray, List.set_cons_zero, List.set_cons_succ, i64_w, i32_w]
        rfl
      refine pure_ (i := 8) (N := some 24) (v := ?_) (a' := ?_) #[true, true, true, true, true, true, true, true, true, false, false] rfl rfl (any_of HT_.out (by kernel_rfl)) (fun _ _ _ h => h) (Or.inl ⟨by rfl, ?_⟩) ?_ ?_
      rotate_left
      · intro w'
        go_simp
        with_reducible rfl
      rotate_left
      · simp only [Act.put, List.setIfInBounds_toArray, List.set_cons_zero, List.set_cons_succ, i64_w, i32_w]
        rfl
      refine one_ (i := 9) (N := none) #[true, true, true, true, true, true, true, true, true, true, false] rfl rfl (one_of HT_.out (by kernel_rfl)) (by decide) (fun K hK => ?_)
      have hs21 : w19.cell? ⟨gb245, 0, none⟩ = some (.int .i64 0) := (blk_cell BK245.out 0).trans rfl
      have hfs21 := blk_frozen BK245.out 0
      have hns21_0 := NB244_245.out
      have hms21_0 := NB245_244.out
      have hs22 : w19.cell? ⟨gb245, 1, none⟩ = some (.slice none 0 0) := (blk_cell BK245.out 1).trans rfl
      have hfs22 := blk_frozen BK245.out 1
      have hns22_0 := NB244_245.out
      have hms22_0 := NB245_244.out
      have hs23 : w19.cell? ⟨gb245, 2, none⟩ = some (.slice none 0 0) := (blk_cell BK245.out 2).trans rfl
      have hfs23 := blk_frozen BK245.out 2
      have hns23_0 := NB244_245.out
      have hms23_0 := NB245_244.out
      refine skip_ (w1 := ?_) (by rfl) rfl ?_ ?_
      rotate_left
      · go_simp
        rfl
      refine hK.out _ _ ⟨((cell_far (p := ⟨gb245, _, none⟩) NB244_245.out _).trans (((cell_far (p := ⟨gb245, _, none⟩) NB244_245.out _).trans (((cell_far (p := ⟨gb245, _, none⟩) NB244_245.out _).trans (hHeld.1)))))), ((cell_far (p := ⟨gb245, _, none⟩) NB244_245.out _).trans (((cell_far (p := ⟨gb245, _, none⟩) NB244_245.out _).trans (((cell_far (p := ⟨gb245, _, none⟩) NB244_245.out _).trans (hHeld.2.1)))))), ((cell_far (p := ⟨gb245, _, none⟩) NB244_245.out _).trans (((cell_far (p := ⟨gb245, _, none⟩) NB244_245.out _).trans (((cell_far (p := ⟨gb245, _, none⟩) NB244_245.out _).trans (hHeld.2.2))))))⟩ (fun hHeld => ?_)
      clear hK K
      refine pure_ (i := 10) (N := some 5) (v := ?_) (a' := ?_) #[true, true, true, true, true, true, true, true, true, true, true] rfl rfl (any_of HT_.out (by kernel_rfl)) (fun _ _ _ h => h) (Or.inl ⟨by rfl, ?_⟩) ?_ ?_
      rotate_left
      · intro w'
        go_simp
        with_reducible rfl
      rotate_left
      · simp only [Act.put, List.setIfInBounds_toArray, List.set_cons_zero, List.set_cons_succ, i64_w, i32_w]
        rfl
      refine done_ (done_of HT_.out (by kernel_rfl)) ?_
      try go_wp2
      refine bodyPost_ret (results_ct rfl _ _ gb245 24 #[.int .i64 a0_0, .slice Ao20 t246.length co20, .slice A0_2 l0_2.length c0_2] (0, 0) _ rfl (by (with_reducible repeat (first | refine blk_drewN ?_ _ | refine blk_drew ?_ | refine blk_alloc ?_ _)); refine blk_put (cs := #[.int .i64 a0_0, .slice Ao20 t246.length co20, .slice none 0 0]) ?_ 2 _ rfl; (with_reducible repeat (first | refine blk_drewN ?_ _ | refine blk_drew ?_ | refine blk_alloc ?_ _)); refine blk_put (cs := #[.int .i64 a0_0, .slice none 0 0, .slice none 0 0]) ?_ 1 _ rfl; (with_reducible repeat (first | refine blk_drewN ?_ _ | refine blk_drew ?_ | refine blk_alloc ?_ _)); refine blk_put (cs := #[.int .i64 0, .slice none 0 0, .slice none 0 0]) ?_ 0 _ rfl; (with_reducible repeat (first | refine blk_drewN ?_ _ | refine blk_drew ?_ | refine blk_alloc ?_ _)); exact BK245.out) Try.underlying24 rfl (by kernel_rfl)) rfl ?_
      exact ⟨_, _, by first | rfl | (simp [errW_none, errW_some] <;> rfl) | (simp [*, errW_none, errW_some] <;> rfl), by (with_reducible repeat (first | apply Kd.R_alloc | apply Kd.R_drewN | apply Kd.R_drew)); exact Kd.R_mono (Kd.R_far (p := ⟨gb245, 2, none⟩) (Kd.R_far (p := ⟨gb245, 1, none⟩) (Kd.R_far (p := ⟨gb245, 0, none⟩) (Kd.R_types HO248.out BK245.out (by decide)) (fun _ hk => hk.2) (.int .i64 a0_0)) (fun _ hk => hk.2) (.slice Ao20 t246.length co20)) (fun _ hk => hk.2) (.slice A0_2 l0_2.length c0_2)) (fun _ hk => hk.1.1), by (with_reducible repeat (first | apply Kd.V_alloc | apply Kd.V_drewN | apply Kd.V_drew)); exact Kd.V_mono (Kd.V_far (p := ⟨gb245, 2, none⟩) (Kd.V_far (p := ⟨gb245, 1, none⟩) (Kd.V_far (p := ⟨gb245, 0, none⟩) (Kd.V_mono HO0_2.out (fun k_ hk => (⟨hk, hk.1.2⟩ : _ ∧ k_ ≠ gb245))) (fun _ hk => hk.2) (.int .i64 a0_0)) (fun _ hk => hk.2) (.slice Ao20 t246.length co20)) (fun _ hk => hk.2) (.slice A0_2 l0_2.length c0_2)) (fun _ hk => ⟨hk.1.1.1.1, hk.1.2⟩), by repeat (first | (with_reducible first | exact HB.out | apply below_alloc | apply pw_below_drewN | apply below_drew1 | refine below_set ?_ GE244.out | refine below_set ?_ GE245.out) | exact HB.out)⟩

/-! ### channel_Repeat: function 19 -/
def channel_Repeat.f (a0_0 : Int) (l0_1 : List Int) (l0_2 : List Int) (a1 : Int) : Option (Int × List Int × List Int × Int) := (channel_at.f l0_1 a1).bind fun t251 => (if t251 = true then (if (l0_1.length : Int) ≥ 1000 then (some (0, ([] : List Int), ([] : List Int), 8)) else ((channel_copyLine.f a0_0 l0_1 l0_2).bind fun bt252 => (if 0 ≤ a1 then (if a1 < (bt252.2.1.length : Int) then (if bt252.2.1.length < 17592186044416 then (some (bt252.1, (bt252.2.1 ++ [rd bt252.2.1 a1]), bt252.2.2, 0)) else (none)) else (none)) else (none)))) else (some (0, ([] : List Int), ([] : List Int), 2)))
def channel_Repeat.T6 : Bool × List (List Nat × List Nat) := (true, [([], []), ([0], [0]), ([], []), ([2], [2]), ([], []), ([3, 4], [3, 4]), ([5], [5]), ([6], [6]), ([1, 7], [1, 7]), ([0, 1, 2, 3, 4, 5, 6, 7, 8], []), ([9, 8, 8, 0, 1, 2, 3, 4, 5, 6, 7, 8], [8, 9])])
def channel_Repeat.B6 : List Nat := [0, 1, 0, 4, 0, 28, 60, 124, 255, 511, 1023]
theorem channel_Repeat.tab6 : rtab .any (opsOf Try.f19 6) = channel_Repeat.T6 := by kernel_rfl
theorem channel_Repeat.bits6 : waitsOk channel_Repeat.T6.2 channel_Repeat.B6 = true := by kernel_rfl
set_option maxHeartbeats 8000000 in
set_option maxRecDepth 100000 in
theorem channel_Repeat.calls (a0_0 : Int) (A0_1 : Option Addr) (c0_1 : Nat) (l0_1 : List Int) (A0_2 : Option Addr) (c0_2 : Nat) (l0_2 : List Int) (a1 : Int) (r1 : Int) (r2 : List Int) (r3 : List Int) (r4 : Int) (w : World) (hr0_1 : Kd.C (Kd.int .i64) w A0_1 l0_1.length l0_1) (hc0_1 : l0_1.length ≤ c0_1) (hr0_2 : Kd.C (Kd.int .i64) w A0_2 l0_2.length l0_2) (hc0_2 : l0_2.length ≤ c0_2) (h : channel_Repeat.f a0_0 l0_1 l0_2 a1 = some (r1, r2, r3, r4)) :
    Calls Try.prog 19 #[.agg #[.int .i64 a0_0, .slice A0_1 l0_1.length c0_1, .slice A0_2 l0_2.length c0_2], .int .i64 a1] w fun e w' => ∃ v1_ v2_ : Value, e = .returned (.tuple #[.agg #[.int .i64 r1, v1_, v2_], .int .i64 r4]) ∧ Kd.R (Kd.int .i64) 3 w' w.heap.size (fun k_ => some k_ ≠ (v2_ : Value).ownBlock) v1_ r2 ∧ Kd.R (Kd.int .i64) 3 w' w.heap.size (fun k_ => some k_ ≠ (v1_ : Value).ownBlock) v2_ r3 ∧ Below w.heap.size w w' := by
  have hu24 := Try.underlying24
  have HR0_1 := Aside0.mk hr0_1
  have HC0_1 := Aside0.mk hc0_1
  clear hr0_1 hc0_1
  have HR0_2 := Aside0.mk hr0_2
  have HC0_2 := Aside0.mk hc0_2
  clear hr0_2 hc0_2
  have HB := Aside0.mk (Below.refl w.heap.size w)
  have H : ((channel_at.f l0_1 a1).bind fun t251 => (if t251 = true then (if (l0_1.length : Int) ≥ 1000 then (some (0, ([] : List Int), ([] : List Int), 8)) else ((channel_copyLine.f a0_0 l0_1 l0_2).bind fun bt252 => (if 0 ≤ a1 then (if a1 < (bt252.2.1.length : Int) then (if bt252.2.1.length < 17592186044416 then (some (bt252.1, (bt252.2.1 ++ [rd bt252.2.1 a1]), bt252.2.2, 0)) else (none)) else (none)) else (none)))) else (some (0, ([] : List Int), ([] : List Int), 2)))) = some (r1, r2, r3, r4) := h
  clear h
  replace H := Option.bind_eq_some_iff.mp H
  obtain ⟨t251, A30, H⟩ := H
  replace H : (if t251 = true then (if (l0_1.length : Int) ≥ 1000 then (some (0, ([] : List Int), ([] : List Int), 8)) else ((channel_copyLine.f a0_0 l0_1 l0_2).bind fun bt252 => (if 0 ≤ a1 then (if a1 < (bt252.2.1.length : Int) then (if bt252.2.1.length < 17592186044416 then (some (bt252.1, (bt252.2.1 ++ [rd bt252.2.1 a1]), bt252.2.2, 0)) else (none)) else (none)) else (none)))) else (some (0, ([] : List Int), ([] : List Int), 2))) = some (r1, r2, r3, r4) := H
  have A3 := Aside0.mk A30
  clear A30
  by_cases c4 : t251 = true
  · subst c4
    have H1 : (if (l0_1.length : Int) ≥ 1000 then (some (0, ([] : List Int), ([] : List Int), 8)) else ((channel_copyLine.f a0_0 l0_1 l0_2).bind fun bt252 => (if 0 ≤ a1 then (if a1 < (bt252.2.1.length : Int) then (if bt252.2.1.length < 17592186044416 then (some (bt252.1, (bt252.2.1 ++ [rd bt252.2.1 a1]), bt252.2.2, 0)) else (none)) else (none)) else (none)))) = some (r1, r2, r3, r4) := by rw [if_pos rfl] at H; exact H
    clear H
    have H := H1
    clear H1
    by_cases c5 : (l0_1.length : Int) ≥ 1000
    · rw [if_pos c5] at H
      have c5b0 : decide (1000 ≤ (l0_1.length : Int)) = true := decide_eq_true c5
      have c5b1 : decide (1000 ≤ l0_1.length) = true := decide_eq_true (by omega)
      clear c5
      simp only [Option.some.injEq, Prod.mk.injEq] at H
      obtain ⟨rfl, rfl, rfl, rfl⟩ := H
      go_enter Try.func19, Try.ntmps19
      go_wp2_with (first | ((with_reducible refine gate_dst (N := 2) rfl ?_); refine box_event ?hg (N := 2) ?hd (cs := #[.int .i64 a0_0, .slice A0_1 l0_1.length c0_1, .slice A0_2 l0_2.length c0_2]) (t := 24) ?hr ?_; (case hd => rfl); (case hg => rfl); (case hr => first | (go_simp; done) | (go_simp; rfl)); intro gb249 hg w6 hbox hb; have n0_ := Aside0.mk (below_step (by exact pB HB.out) hb); have n1_ := Aside0.mk (hbox); have n2_ := Aside0.mk ((by rw [hg]; exact (below_size (by exact pB HB.out)) : w.heap.size ≤ gb249)); have n3_ := Aside0.mk ((by rw [hg]; exact (below_size (by exact pB HB.out)) : w.heap.size ≤ gb249)); clear HB; have HB := n0_; have BK249 := n1_; have GW249 := n2_; have GE249 := n3_; clear n0_ n1_ n2_ n3_; clear hb hbox hg) | ((with_reducible refine gate_dst (N := 4) rfl ?_); refine box_event ?hg (N := 4) ?hd (cs := #[.int .i64 0, .slice none 0 0, .slice none 0 0]) (t := 24) ?hr ?_; (case hd => rfl); (case hg => rfl); (case hr => first | (go_simp; done) | (go_simp; rfl)); intro gb250 hg w7 hbox hb; have n0_ := Aside0.mk (blk_below (g := gb249) (o := .cells #[.int .i64 a0_0, .slice A0_1 l0_1.length c0_1, .slice A0_2 l0_2.length c0_2] 24 (0, 0)) (by exact pK BK249.out) hb); have n1_ := Aside0.mk (below_step (by exact pB HB.out) hb); have n2_ := Aside0.mk (hbox); have n3_ := Aside0.mk ((by rw [hg]; exact (below_size (by exact pB HB.out)) : w.heap.size ≤ gb250)); have n4_ := Aside0.mk ((by rw [hg]; exact (below_size (by exact pB HB.out)) : w.heap.size ≤ gb250)); have n5_ := Aside0.mk ((by rw [hg]; exact Nat.ne_of_lt (blk_lt (g := gb249) (o := .cells #[.int .i64 a0_0, .slice A0_1 l0_1.length c0_1, .slice A0_2 l0_2.length c0_2] 24 (0, 0)) (by exact pK BK249.out)) : gb249 ≠ gb250)); have n6_ := Aside0.mk ((by rw [hg]; exact Nat.ne_of_gt (blk_lt (g := gb249) (o := .cells #[.int .i64 a0_0, .slice A0_1 l0_1.length c0_1, .slice A0_2 l0_2.length c0_2] 24 (0, 0)) (by exact pK BK249.out)) : gb250 ≠ gb249)); clear BK249; clear HB; have BK249 := n0_; have HB := n1_; have BK250 := n2_; have GW250 := n3_; have GE250 := n4_; have NB249_250 := n5_; have NB250_249 := n6_; clear n0_ n1_ n2_ n3_ n4_ n5_ n6_; clear hb hbox hg; have hnb8 := NB249_250.out; have hnc8 := NB250_249.out; have hcz9_0 : w7.cell? ⟨gb249, 0, none⟩ = some (.int .i64 a0_0) := (blk_cell BK249.out 0).trans rfl; have hcz9_1 : w7.cell? ⟨gb249, 1, none⟩ = some (.slice A0_1 l0_1.length c0_1) := (blk_cell BK249.out 1).trans rfl; have hcz9_2 : w7.cell? ⟨gb249, 2, none⟩ = some (.slice A0_2 l0_2.length c0_2) := (blk_cell BK249.out 2).trans rfl; have hfz9_0 := blk_frozen BK249.out 0; have hfz9_1 := blk_frozen BK249.out 1; have hfz9_2 := blk_frozen BK249.out 2) | ((with_reducible refine gate_callee (f := 33) rfl ?_); refine goesL_ (some 9) rfl rfl Try.func33 (by kernel_rfl) rfl #[.slice A0_1 l0_1.length c0_1, .int .i64 a1] rfl (by (try simp only [List.map_toArray, List.map_cons, List.map_nil]); first | done | rfl | (simp only [List.length_drop, List.length_take]; rfl)) ?_; (with_reducible refine (channel_at.calls _ _ l0_1 a1 true _ ?side1 ?side2 A3.out).mono ?_); (case side1 => exact pC (Kd.C_below HR0_1.out HB.out)); (case side2 => exact HC0_1.out); rintro e w' ⟨rfl, ⟨nd, rfl⟩⟩; refine ⟨_, rfl, ?_⟩; (try (rw [drewN_self w7]; generalize hq_ : World.drewN w7 _ = w7; have n0_ : Aside0 (w7.heap[gb249]? = some (.cells #[.int .i64 a0_0, .slice A0_1 l0_1.length c0_1, .slice A0_2 l0_2.length c0_2] 24 (0, 0))) := ⟨by rw [← hq_]; exact (by exact pK BK249.out)⟩; have n1_ : Aside0 (w7.heap[gb250]? = some (.cells #[.int .i64 0, .slice none 0 0, .slice none 0 0] 24 (0, 0))) := ⟨by rw [← hq_]; exact (by exact pK BK250.out)⟩; have n2_ : Aside0 (Below w.heap.size w w7) := ⟨by rw [← hq_]; exact (by exact pB HB.out)⟩; clear BK249 BK250 HB hq_; have BK249 := n0_; have BK250 := n1_; have HB := n2_; clear n0_ n1_ n2_)); have hcz10_0 : w7.cell? ⟨gb249, 0, none⟩ = some (.int .i64 a0_0) := (blk_cell BK249.out 0).trans rfl; have hcz10_1 : w7.cell? ⟨gb249, 1, none⟩ = some (.slice A0_1 l0_1.length c0_1) := (blk_cell BK249.out 1).trans rfl; have hcz10_2 : w7.cell? ⟨gb249, 2, none⟩ = some (.slice A0_2 l0_2.length c0_2) := (blk_cell BK249.out 2).trans rfl; have hfz10_0 := blk_frozen BK249.out 0; have hfz10_1 := blk_frozen BK249.out 1; have hfz10_2 := blk_frozen BK249.out 2; have hcz11_0 : w7.cell? ⟨gb250, 0, none⟩ = some (.int .i64 0) := (blk_cell BK250.out 0).trans rfl; have hcz11_1 : w7.cell? ⟨gb250, 1, none⟩ = some (.slice none 0 0) := (blk_cell BK250.out 1).trans rfl; have hcz11_2 : w7.cell? ⟨gb250, 2, none⟩ = some (.slice none 0 0) := (blk_cell BK250.out 2).trans rfl; have hfz11_0 := blk_frozen BK250.out 0; have hfz11_1 := blk_frozen BK250.out 1; have hfz11_2 := blk_frozen BK250.out 2))
      refine bodyPost_ret (results_ct rfl _ _ gb250 24 #[.int .i64 0, .slice none 0 0, .slice none 0 0] (0, 0) _ rfl (by (with_reducible repeat (first | refine blk_drewN ?_ _ | refine blk_drew ?_ | refine blk_alloc ?_ _)); refine blk_put (cs := #[.int .i64 0, .slice none 0 0, .slice none 0 0]) ?_ 2 _ rfl; (with_reducible repeat (first | refine blk_drewN ?_ _ | refine blk_drew ?_ | refine blk_alloc ?_ _)); refine blk_put (cs := #[.int .i64 0, .slice none 0 0, .slice none 0 0]) ?_ 1 _ rfl; (with_reducible repeat (first | refine blk_drewN ?_ _ | refine blk_drew ?_ | refine blk_alloc ?_ _)); refine blk_put (cs := #[.int .i64 0, .slice none 0 0, .slice none 0 0]) ?_ 0 _ rfl; (with_reducible repeat (first | refine blk_drewN ?_ _ | refine blk_drew ?_ | refine blk_alloc ?_ _)); exact BK250.out) Try.underlying24 rfl (by kernel_rfl)) rfl ?_
      exact ⟨_, _, by first | rfl | (simp [errW_none, errW_some] <;> rfl) | (simp [*, errW_none, errW_some] <;> rfl), by first | exact Kd.R_nil _ _ _ _ _ | exact Kd.N_nil _ _ _ _ _ | exact Kd.V_nil _ _ _ _ _ | exact Kd.Q_nil _ _ _ _ _ | exact Kd.S_nil _ _ _ _ _, by first | exact Kd.R_nil _ _ _ _ _ | exact Kd.N_nil _ _ _ _ _ | exact Kd.V_nil _ _ _ _ _ | exact Kd.Q_nil _ _ _ _ _ | exact Kd.S_nil _ _ _ _ _, by repeat (first | (with_reducible first | exact HB.out | apply below_alloc | apply pw_below_drewN | apply below_drew1 | refine below_set ?_ GE249.out | refine below_set ?_ GE250.out) | exact HB.out)⟩
    · rw [if_neg c5] at H
      have c5b0 : decide (1000 ≤ (l0_1.length : Int)) = false := decide_eq_false c5
      have c5b1 : decide (1000 ≤ l0_1.length) = false := decide_eq_false (by omega)
      clear c5
      replace H := Option.bind_eq_some_iff.mp H
      obtain ⟨⟨t252, t253, t256⟩, A120, H⟩ := H
      replace H : (if 0 ≤ a1 then (if a1 < (t253.length : Int) then (if t253.length < 17592186044416 then (some (t252, (t253 ++ [rd t253 a1]), t256, 0)) else (none)) else (none)) else (none)) = some (r1, r2, r3, r4) := H
      have A12 := Aside0.mk A120
      clear A120
      have c13 : 0 ≤ a1 := by
        refine Classical.byContradiction fun c13 => ?_
        rw [if_neg c13] at H
        exact absurd H (by simp)
      rw [if_pos c13] at H
      have c13b0 : decide (0 ≤ a1) = true := decide_eq_true c13
      clear c13
      have c14 : a1 < (t253.length : Int) := by
        refine Classical.byContradiction fun c14 => ?_
        rw [if_neg c14] at H
        exact absurd H (by simp)
      rw [if_pos c14] at H
      have c14b0 : decide (a1 < (t253.length : Int)) = true := decide_eq_true c14
      clear c14
      have c15 : t253.length < 17592186044416 := by
        refine Classical.byContradiction fun c15 => ?_
        rw [if_neg c15] at H
        exact absurd H (by simp)
      rw [if_pos c15] at H
      have LMc15 := Aside0.mk c15
      clear c15
      obtain ⟨y260, hy260⟩ : ∃ y_ : List Int, y_ = (t253 ++ [rd t253 a1]) := ⟨_, rfl⟩
      replace H : (some (t252, y260, t256, 0)) = some (r1, r2, r3, r4) := by first | (rw [hy260]; with_reducible exact H) | (have H2_ := (Option.bind_some _ _).symm.trans H; rw [hy260]; with_reducible exact H2_) | (have H2_ := (Option.bind_some _ _).symm.trans H; with_reducible exact H2_) | with_reducible exact H | (rw [hy260]; exact H) | exact H
      have Ny260 := Aside0.mk hy260
      clear hy260
      simp only [Option.some.injEq, Prod.mk.injEq] at H
      obtain ⟨rfl, rfl, rfl, rfl⟩ := H
      go_enter Try.func19, Try.ntmps19
      try go_wp2_with (first | ((with_reducible refine gate_dst (N := 2) rfl ?_); refine box_event ?hg (N := 2) ?hd (cs := #[.int .i64 a0_0, .slice A0_1 l0_1.length c0_1, .slice A0_2 l0_2.length c0_2]) (t := 24) ?hr ?_; (case hd => rfl); (case hg => rfl); (case hr => first | (go_simp; done) | (go_simp; rfl)); intro gb249 hg w16 hbox hb; have n0_ := Aside0.mk (below_step (by exact pB HB.out) hb); have n1_ := Aside0.mk (hbox); have n2_ := Aside0.mk ((by rw [hg]; exact (below_size (by exact pB HB.out)) : w.heap.size ≤ gb249)); have n3_ := Aside0.mk ((by rw [hg]; exact (below_size (by exact pB HB.out)) : w.heap.size ≤ gb249)); clear HB; have HB := n0_; have BK249 := n1_; have GW249 := n2_; have GE249 := n3_; clear n0_ n1_ n2_ n3_; clear hb hbox hg) | ((with_reducible refine gate_dst (N := 4) rfl ?_); refine box_event ?hg (N := 4) ?hd (cs := #[.int .i64 0, .slice none 0 0, .slice none 0 0]) (t := 24) ?hr ?_; (case hd => rfl); (case hg => rfl); (case hr => first | (go_simp; done) | (go_simp; rfl)); intro gb250 hg w17 hbox hb; have n0_ := Aside0.mk (blk_below (g := gb249) (o := .cells #[.int .i64 a0_0, .slice A0_1 l0_1.length c0_1, .slice A0_2 l0_2.length c0_2] 24 (0, 0)) (by exact pK BK249.out) hb); have n1_ := Aside0.mk (below_step (by exact pB HB.out) hb); have n2_ := Aside0.mk (hbox); have n3_ := Aside0.mk ((by rw [hg]; exact (below_size (by exact pB HB.out)) : w.heap.size ≤ gb250)); have n4_ := Aside0.mk ((by rw [hg]; exact (below_size (by exact pB HB.out)) : w.heap.size ≤ gb250)); have n5_ := Aside0.mk ((by rw [hg]; exact Nat.ne_of_lt (blk_lt (g := gb249) (o := .cells #[.int .i64 a0_0, .slice A0_1 l0_1.length c0_1, .slice A0_2 l0_2.length c0_2] 24 (0, 0)) (by exact pK BK249.out)) : gb249 ≠ gb250)); have n6_ := Aside0.mk ((by rw [hg]; exact Nat.ne_of_gt (blk_lt (g := gb249) (o := .cells #[.int .i64 a0_0, .slice A0_1 l0_1.length c0_1, .slice A0_2 l0_2.length c0_2] 24 (0, 0)) (by exact pK BK249.out)) : gb250 ≠ gb249)); clear BK249; clear HB; have BK249 := n0_; have HB := n1_; have BK250 := n2_; have GW250 := n3_; have GE250 := n4_; have NB249_250 := n5_; have NB250_249 := n6_; clear n0_ n1_ n2_ n3_ n4_ n5_ n6_; clear hb hbox hg; have hnb18 := NB249_250.out; have hnc18 := NB250_249.out; have hcz19_0 : w17.cell? ⟨gb249, 0, none⟩ = some (.int .i64 a0_0) := (blk_cell BK249.out 0).trans rfl; have hcz19_1 : w17.cell? ⟨gb249, 1, none⟩ = some (.slice A0_1 l0_1.length c0_1) := (blk_cell BK249.out 1).trans rfl; have hcz19_2 : w17.cell? ⟨gb249, 2, none⟩ = some (.slice A0_2 l0_2.length c0_2) := (blk_cell BK249.out 2).trans rfl; have hfz19_0 := blk_frozen BK249.out 0; have hfz19_1 := blk_frozen BK249.out 1; have hfz19_2 := blk_frozen BK249.out 2) | ((with_reducible refine gate_callee (f := 33) rfl ?_); refine goesL_ (some 9) rfl rfl Try.func33 (by kernel_rfl) rfl #[.slice A0_1 l0_1.length c0_1, .int .i64 a1] rfl (by (try simp only [List.map_toArray, List.map_cons, List.map_nil]); first | done | rfl | (simp only [List.length_drop, List.length_take]; rfl)) ?_; (with_reducible refine (channel_at.calls _ _ l0_1 a1 true _ ?side1 ?side2 A3.out).mono ?_); (case side1 => exact pC (Kd.C_below HR0_1.out HB.out)); (case side2 => exact HC0_1.out); rintro e w' ⟨rfl, ⟨nd, rfl⟩⟩; refine ⟨_, rfl, ?_⟩; (try (rw [drewN_self w17]; generalize hq_ : World.drewN w17 _ = w17; have n0_ : Aside0 (w17.heap[gb249]? = some (.cells #[.int .i64 a0_0, .slice A0_1 l0_1.length c0_1, .slice A0_2 l0_2.length c0_2] 24 (0, 0))) := ⟨by rw [← hq_]; exact (by exact pK BK249.out)⟩; have n1_ : Aside0 (w17.heap[gb250]? = some (.cells #[.int .i64 0, .slice none 0 0, .slice none 0 0] 24 (0, 0))) := ⟨by rw [← hq_]; exact (by exact pK BK250.out)⟩; have n2_ : Aside0 (Below w.heap.size w w17) := ⟨by rw [← hq_]; exact (by exact pB HB.out)⟩; clear BK249 BK250 HB hq_; have BK249 := n0_; have BK250 := n1_; have HB := n2_; clear n0_ n1_ n2_)); have hcz20_0 : w17.cell? ⟨gb249, 0, none⟩ = some (.int .i64 a0_0) := (blk_cell BK249.out 0).trans rfl; have hcz20_1 : w17.cell? ⟨gb249, 1, none⟩ = some (.slice A0_1 l0_1.length c0_1) := (blk_cell BK249.out 1).trans rfl; have hcz20_2 : w17.cell? ⟨gb249, 2, none⟩ = some (.slice A0_2 l0_2.length c0_2) := (blk_cell BK249.out 2).trans rfl; have hfz20_0 := blk_frozen BK249.out 0; have hfz20_1 := blk_frozen BK249.out 1; have hfz20_2 := blk_frozen BK249.out 2) | ((with_reducible refine gate_callee (f := 32) rfl ?_); refine goesL_ (some 18) rfl rfl Try.func32 (by kernel_rfl) rfl #[.agg #[.int .i64 a0_0, .slice A0_1 l0_1.length c0_1, .slice A0_2 l0_2.length c0_2]] rfl (by (try simp only [List.map_toArray, List.map_cons, List.map_nil]); first | done | rfl | (simp only [List.length_drop, List.length_take]; rfl)) ?_; (with_reducible refine (channel_copyLine.calls a0_0 _ _ l0_1 _ _ l0_2 t252 t253 t256 _ ?side1 ?side2 ?side3 ?side4 A12.out).mono ?_); (case side1 => exact pC (Kd.C_below HR0_1.out HB.out)); (case side2 => exact HC0_1.out); (case side3 => exact pC (Kd.C_below HR0_2.out HB.out)); (case side4 => exact HC0_2.out); rintro e w21 ⟨v254, v257, rfl, ho0, ho1, hb⟩; refine ⟨_, rfl, ?_⟩; have n0_ := Aside0.mk (Kd.R_lower ho0 (below_size (by exact pB HB.out))); have n1_ := Aside0.mk (Kd.R_lower ho1 (below_size (by exact pB HB.out))); have n2_ := Aside0.mk (blk_below (g := gb249) (o := .cells #[.int .i64 a0_0, .slice A0_1 l0_1.length c0_1, .slice A0_2 l0_2.length c0_2] 24 (0, 0)) (by exact pK BK249.out) hb); have n3_ := Aside0.mk (blk_below (g := gb250) (o := .cells #[.int .i64 0, .slice none 0 0, .slice none 0 0] 24 (0, 0)) (by exact pK BK250.out) hb); have n4_ := Aside0.mk (below_step (by exact pB HB.out) hb); clear BK249; clear BK250; clear HB; have HO255 := n0_; have HO258 := n1_; have BK249 := n2_; have BK250 := n3_; have HB := n4_; clear n0_ n1_ n2_ n3_ n4_; (try clear hb); (try clear hb2); (try clear hk); (try clear hi); (try clear ho0); (try clear ho1); have hcz22_0 : w21.cell? ⟨gb249, 0, none⟩ = some (.int .i64 a0_0) := (blk_cell BK249.out 0).trans rfl; have hcz22_1 : w21.cell? ⟨gb249, 1, none⟩ = some (.slice A0_1 l0_1.length c0_1) := (blk_cell BK249.out 1).trans rfl; have hcz22_2 : w21.cell? ⟨gb249, 2, none⟩ = some (.slice A0_2 l0_2.length c0_2) := (blk_cell BK249.out 2).trans rfl; have hfz22_0 := blk_frozen BK249.out 0; have hfz22_1 := blk_frozen BK249.out 1; have hfz22_2 := blk_frozen BK249.out 2; obtain ⟨Ao23, co23, eo23⟩ := Kd.R_slice HO255.out; subst eo23; obtain ⟨Ao24, co24, eo24⟩ := Kd.R_slice HO258.out; subst eo24))
      have n0_ : Aside0 (Kd.R (Kd.int .i64) 3 (((w21.setCell ⟨gb249, 0, none⟩ (.int .i64 t252)).setCell ⟨gb249, 1, none⟩ (.slice Ao23 t253.length co23)).setCell ⟨gb249, 2, none⟩ (.slice Ao24 t256.length co24)) w.heap.size (fun k_ => some k_ ≠ (.slice Ao24 t256.length co24 : Value).ownBlock) (.slice Ao23 t253.length co23) t253) := ⟨by (with_reducible repeat (first | apply Kd.R_alloc | apply Kd.R_drewN | apply Kd.R_drew)); exact Kd.R_mono (Kd.R_far (p := ⟨gb249, 2, none⟩) (Kd.R_far (p := ⟨gb249, 1, none⟩) (Kd.R_far (p := ⟨gb249, 0, none⟩) (Kd.R_types HO255.out BK249.out (by decide)) (fun _ hk => hk.2) (.int .i64 t252)) (fun _ hk => hk.2) (.slice Ao23 t253.length co23)) (fun _ hk => hk.2) (.slice Ao24 t256.length co24)) (fun _ hk => hk.1)⟩
      have n1_ : Aside0 (Kd.R (Kd.int .i64) 3 (((w21.setCell ⟨gb249, 0, none⟩ (.int .i64 t252)).setCell ⟨gb249, 1, none⟩ (.slice Ao23 t253.length co23)).setCell ⟨gb249, 2, none⟩ (.slice Ao24 t256.length co24)) w.heap.size (fun k_ => some k_ ≠ (.slice Ao23 t253.length co23 : Value).ownBlock) (.slice Ao24 t256.length co24) t256) := ⟨by (with_reducible repeat (first | apply Kd.R_alloc | apply Kd.R_drewN | apply Kd.R_drew)); exact Kd.R_mono (Kd.R_far (p := ⟨gb249, 2, none⟩) (Kd.R_far (p := ⟨gb249, 1, none⟩) (Kd.R_far (p := ⟨gb249, 0, none⟩) (Kd.R_types HO258.out BK249.out (by decide)) (fun _ hk => hk.2) (.int .i64 t252)) (fun _ hk => hk.2) (.slice Ao23 t253.length co23)) (fun _ hk => hk.2) (.slice Ao24 t256.length co24)) (fun _ hk => hk.1)⟩
      have n2_ : Aside0 ((((w21.setCell ⟨gb249, 0, none⟩ (.int .i64 t252)).setCell ⟨gb249, 1, none⟩ (.slice Ao23 t253.length co23)).setCell ⟨gb249, 2, none⟩ (.slice Ao24 t256.length co24)).heap[gb249]? = some (.cells #[.int .i64 t252, .slice Ao23 t253.length co23, .slice Ao24 t256.length co24] 24 (0, 0))) := ⟨by (with_reducible repeat (first | refine blk_drewN ?_ _ | refine blk_drew ?_ | refine blk_alloc ?_ _)); refine blk_put (cs := #[.int .i64 t252, .slice Ao23 t253.length co23, .slice A0_2 l0_2.length c0_2]) ?_ 2 _ rfl; (with_reducible repeat (first | refine blk_drewN ?_ _ | refine blk_drew ?_ | refine blk_alloc ?_ _)); refine blk_put (cs := #[.int .i64 t252, .slice A0_1 l0_1.length c0_1, .slice A0_2 l0_2.length c0_2]) ?_ 1 _ rfl; (with_reducible repeat (first | refine blk_drewN ?_ _ | refine blk_drew ?_ | refine blk_alloc ?_ _)); refine blk_put (cs := #[.int .i64 a0_0, .slice A0_1 l0_1.length c0_1, .slice A0_2 l0_2.length c0_2]) ?_ 0 _ rfl; (with_reducible repeat (first | refine blk_drewN ?_ _ | refine blk_drew ?_ | refine blk_alloc ?_ _)); exact BK249.out⟩
      have n3_ : Aside0 ((((w21.setCell ⟨gb249, 0, none⟩ (.int .i64 t252)).setCell ⟨gb249, 1, none⟩ (.slice Ao23 t253.length co23)).setCell ⟨gb249, 2, none⟩ (.slice Ao24 t256.length co24)).heap[gb250]? = some (.cells #[.int .i64 0, .slice none 0 0, .slice none 0 0] 24 (0, 0))) := ⟨by (with_reducible repeat (first | refine blk_drewN ?_ _ | refine blk_drew ?_ | refine blk_alloc ?_ _)); refine blk_far ?_ NB250_249.out _; (with_reducible repeat (first | refine blk_drewN ?_ _ | refine blk_drew ?_ | refine blk_alloc ?_ _)); refine blk_far ?_ NB250_249.out _; (with_reducible repeat (first | refine blk_drewN ?_ _ | refine blk_drew ?_ | refine blk_alloc ?_ _)); refine blk_far ?_ NB250_249.out _; (with_reducible repeat (first | refine blk_drewN ?_ _ | refine blk_drew ?_ | refine blk_alloc ?_ _)); exact BK250.out⟩
      have n4_ : Aside0 (Below w.heap.size w (((w21.setCell ⟨gb249, 0, none⟩ (.int .i64 t252)).setCell ⟨gb249, 1, none⟩ (.slice Ao23 t253.length co23)).setCell ⟨gb249, 2, none⟩ (.slice Ao24 t256.length co24))) := ⟨by repeat (first | (with_reducible first | exact HB.out | apply below_alloc | apply pw_below_drewN | apply below_drew1 | refine below_set ?_ GE249.out | refine below_set ?_ GE250.out) | exact HB.out)⟩
      (try clear HO255)
      (try clear HO258)
      (try clear BK249)
      (try clear BK250)
      (try clear HB)
      generalize (((w21.setCell ⟨gb249, 0, none⟩ (.int .i64 t252)).setCell ⟨gb249, 1, none⟩ (.slice Ao23 t253.length co23)).setCell ⟨gb249, 2, none⟩ (.slice Ao24 t256.length co24)) = w25 at n0_ n1_ n2_ n3_ n4_ ⊢
      have HO255 := n0_
      have HO258 := n1_
      have BK249 := n2_
      have BK250 := n3_
      have HB := n4_
      clear n0_ n1_ n2_ n3_ n4_
      have n0_ := Aside0.mk (Kd.R_drew HO255.out)
      have n1_ := Aside0.mk (Kd.R_drew HO258.out)
      have n2_ := Aside0.mk (blk_drew BK249.out)
      have n3_ := Aside0.mk (blk_drew BK250.out)
      have n4_ := Aside0.mk (below_drew1 HB.out)
      clear HO255
      clear HO258
      clear BK249
      clear BK250
      clear HB
      have HO255 := n0_
      have HO258 := n1_
      have BK249 := n2_
      have BK250 := n3_
      have HB := n4_
      clear n0_ n1_ n2_ n3_ n4_
      have p259 : 0 ≤ (a1 : Int) := of_decide_eq_true (by first | (with_reducible assumption) | assumption)
      have q259 : a1 < (t253.length : Int) := of_decide_eq_true (by first | (with_reducible assumption) | assumption)
      obtain ⟨ad259, e259, hx259_0⟩ := Kd.at_int (Kd.R_reads' HO255.out).2.2 a1 p259 q259
      cases e259
      replace p259 := eq_true p259
      replace q259 := eq_true q259
      refine start_ (n := 11) (S := fun w' => w'.cell? ⟨gb249, 0, none⟩ = some (.int .i64 t252) ∧ w'.cell? ⟨gb249, 1, none⟩ = some (.slice (some ad259) t253.length co23) ∧ w'.cell? ⟨gb249, 2, none⟩ = some (.slice Ao24 t256.length co24) ∧ w'.cell? (ad259.add (a1).toNat) = some (.int .i64 (rd t253 a1))) (ds := [8, 10]) #[false, false, false, false, false, false, false, false, false, false, false] (by kernel_rfl) rfl rfl ⟨(blk_cell BK249.out 0).trans rfl, (blk_cell BK249.out 1).trans rfl, (blk_cell BK249.out 2).trans rfl, hx259_0⟩ (fun hHeld => ?_); refine with_tabW channel_Repeat.tab6 channel_Repeat.bits6 (fun HT_ HW_ => ?_)
      generalize w25.drew = w26 at HO255 HO258 BK249 BK250 HB hx259_0 hHeld ⊢
      refine pure_ (i := 0) (N := some 19) (v := ?_) (a' := ?_) #[true, false, false, false, false, false, false, false, false, false, false] rfl rfl (any_of HT_.out (by kernel_rfl)) (fun _ _ _ h => h) (Or.inl ⟨by rfl, ?_⟩) ?_ ?_
      rotate_left
      · intro w'
        go_simp
        with_reducible rfl
      rotate_left
      · simp only [Act.put, List.setIfInBounds_toArray, List.set_cons_zero, List.set_cons_succ, i64_w, i32_w]
        rfl
      refine pure_ (i := 2) (N := some 21) (v := ?_) (a' := ?_) #[true, false, true, false, false, false, false, false, false, false, false] rfl rfl (any_of HT_.out (by kernel_rfl)) (fun _ _ _ h => h) (Or.inl ⟨by rfl, ?_⟩) ?_ ?_
      rotate_left
      · intro w'
        go_simp
        with_reducible rfl
      rotate_left
      · simp only [Act.put, List.setIfInBounds_toArray, List.set_cons_zero, List.set_cons_succ, i64_w, i32_w]
        rfl
      refine pure_ (i := 4) (N := some 23) (v := ?_) (a' := ?_) #[true, false, true, false, true, false, false, false, false, false, false] rfl rfl (any_of HT_.out (by kernel_rfl)) (fun _ _ _ h => h) (Or.inl ⟨by rfl, ?_⟩) ?_ ?_
      rotate_left
      · intro w'
        go_simp
        with_reducible rfl
      rotate_left
      · simp only [Act.put, List.setIfInBounds_toArray, List.set_cons_zero, List.set_cons_succ, i64_w, i32_w]
        rfl
      refine take_ (i := 1) (N := some 20) (v := ?_) (a' := ?_) #[true, true, true, false, true, false, false, false, false, false, false] rfl rfl (take_ofW HT_.out HW_.out (by kernel_rfl)) (fun _ _ _ h => h) (Or.inl ⟨by rfl, ?_⟩) hHeld ?_ ?_
      rotate_left
      · rintro w' ⟨s0, s1, s2, s3⟩
        go_simp
        with_reducible rfl
      rotate_left
      · simp only [Act.put, List.setIfInBounds_toArray, List.set_cons_zero, List.set_cons_succ, i64_w, i32_w]
        rfl
      refine take_ (i := 3) (N := some 22) (v := ?_) (a' := ?_) #[true, true, true, true, true, false, false, false, false, false, false] rfl rfl (take_ofW HT_.out HW_.out (by kernel_rfl)) (fun _ _ _ h => h) (Or.inl ⟨by rfl, ?_⟩) hHeld ?_ ?_
      rotate_left
      · rintro w' ⟨s0, s1, s2, s3⟩
        go_simp
        with_reducible rfl
      rotate_left
      · simp only [Act.put, List.setIfInBounds_toArray, List.set_cons_zero, List.set_cons_succ, i64_w, i32_w]
        rfl
      refine pure_ (i := 5) (N := some 24) (v := ?_) (a' := ?_) #[true, true, true, true, true, true, false, false, false, false, false] rfl rfl (any_of HT_.out (by kernel_rfl)) (fun _ _ _ h => h) (Or.inl ⟨by rfl, ?_⟩) ?_ ?_
      rotate_left
      · intro w'
        go_simp
        with_reducible rfl
      rotate_left
      · simp only [Act.put, List.setIfInBounds_toArray, List.set_cons_zero, List.set_cons_succ, i64_w, i32_w]
        rfl
      refine take_ (i := 6) (N := some 25) (v := ?_) (a' := ?_) #[true, true, true, true, true, true, true, false, false, false, false] rfl rfl (take_ofW HT_.out HW_.out (by kernel_rfl)) (fun _ _ _ h => h) (Or.inl ⟨by rfl, ?_⟩) hHeld ?_ ?_
      rotate_left
      · rintro w' ⟨s0, s1, s2, s3⟩
        go_simp
        with_reducible rfl
      rotate_left
      · simp only [Act.put, List.setIfInBounds_toArray, List.set_cons_zero, List.set_cons_succ, i64_w, i32_w]
        rfl
      refine one_ (i := 7) (N := some 26) #[true, true, true, true, true, true, true, true, false, false, false] rfl rfl (one_of HT_.out (by kernel_rfl)) (by decide) (fun K hK => ?_)
      refine value_ (w1 := ?_) (v := ?_) (by rfl) rfl ?_ ?_
      rotate_left 2
      · go_simp
        constructor
        · rfl
        · rfl
      refine hK.out _ _ ⟨(blk_cell (blk_alloc BK249.out _) 0).trans rfl, (blk_cell (blk_alloc BK249.out _) 1).trans rfl, (blk_cell (blk_alloc BK249.out _) 2).trans rfl, (World.cell?_alloc_lt _ _ _ (World.block_lt_of_cell? _ _ (hHeld.2.2.2))).trans (hHeld.2.2.2)⟩ (fun hHeld => ?_)
      clear hK K
      refine norm_ (a' := ?_) ?_ ?_
      rotate_left
      · show Act.put _ (some 26) _ = _
        simp only [Act.put, List.setIfInBounds_toArray, List.set_cons_zero, List.set_cons_succ, i64_w, i32_w]
        rfl
      refine last_ (i := 8) (N := some 27) #[true, true, true, true, true, true, true, true, true, false, false] rfl rfl (one_of HT_.out (by kernel_rfl)) (by decide) (fun K hK => ?_)
      refine Kd.R_append_step (Kd.int .i64) (w0 := w) w.heap.size (by rfl) (.tmp 20) (.tmp 26) 22 3 (.int .i64 0) 8 rfl Try.underlying22 info3 rfl (by decide) (by omega) (.slice (some ad259) t253.length co23) t253 (rd t253 a1) [.int .i64 (rd t253 a1)] (fun k_ => some k_ ≠ (.slice Ao24 t256.length co24 : Value).ownBlock) (fun _ => False) rfl rfl ?aP (fun _ hk => hk.elim) ?aF ?aO ?aB ?aS ?aL ?_
      (case aP => exact rfl)
      (case aB => exact (by exact pB HB.out))
      (case aF => exact (fun k_ hk => Kd.fresh' (Kd.R_lt (by exact pR HO258.out)) k_ hk))
      (case aO => exact (by exact pR HO255.out))
      (case aS => exact (below_size (by exact pB HB.out)))
      (case aL => have := LMc15.out; omega)
      intro v261 w27 ho hb hg hat
      rw [← Ny260.out] at ho
      have n0_ := Aside0.mk (blk_grown (g := gb249) (o := .cells #[.int .i64 t252, .slice (some ad259) t253.length co23, .slice Ao24 t256.length co24] 24 (0, 0)) (by exact pK BK249.out) hg (Kd.R_ne HO255.out BK249.out (by decide)))
      have n1_ := Aside0.mk (blk_grown (g := gb250) (o := .cells #[.int .i64 0, .slice none 0 0, .slice none 0 0] 24 (0, 0)) (by exact pK BK250.out) hg (Kd.R_ne HO255.out BK250.out (by decide)))
      have n2_ := Aside0.mk (Kd.R_after (ok := (fun _ => True)) (by exact pR (Kd.R_mono HO258.out (fun _ hk => ⟨trivial, hk⟩))) hg hat)
      have n3_ := Aside0.mk (hb)
      have n4_ := Aside0.mk (ho)
      clear BK249
      clear BK250
      clear HO258
      clear HB
      clear HO255
      have BK249 := n0_
      have BK250 := n1_
      have HO258 := n2_
      have HB := n3_
      have HO262 := n4_
      clear n0_ n1_ n2_ n3_ n4_
      clear ho hb hg hat
      obtain ⟨Ao28, co28, eo28⟩ := Kd.R_slice HO262.out
      (first | subst eo28 | (injection eo28 with f1_ f2_ f3_; have f4_ := f1_.symm; have f5_ := f3_.symm; clear f1_ f2_ f3_; subst f4_; subst f5_))
      refine hK.out _ _ ?_
      clear hK K
      refine norm_ (a' := ?_) ?_ ?_
      rotate_left
      · show Act.put _ (some 27) _ = _
        simp only [Act.put, List.setIfInBounds_toArray, List.set_cons_zero, List.set_cons_succ, i64_w, i32_w]
        rfl
      refine pure_ (i := 9) (N := some 28) (v := ?_) (a' := ?_) #[true, true, true, true, true, true, true, true, true, true, false] rfl rfl (any_of HT_.out (by kernel_rfl)) (fun _ _ _ h => h) (Or.inl ⟨by rfl, ?_⟩) ?_ ?_
      rotate_left
      · intro w'
        go_simp
        with_reducible rfl
      rotate_left
      · simp only [Act.put, List.setIfInBounds_toArray, List.set_cons_zero, List.set_cons_succ, i64_w, i32_w]
        rfl
      refine last_ (i := 10) (N := none) #[true, true, true, true, true, true, true, true, true, true, true] rfl rfl (one_of HT_.out (by kernel_rfl)) (by decide) (fun K hK => ?_)
      have hs29 : w27.cell? ⟨gb249, 1, none⟩ = some (.slice (some ad259) t253.length co23) := (blk_cell BK249.out 1).trans rfl
      have hfs29 := blk_frozen BK249.out 1
      have hns29_1 := NB250_249.out
      have hms29_1 := NB249_250.out
      refine skip_ (w1 := ?_) (by rfl) rfl ?_ ?_
      rotate_left
      · go_simp
        rfl
      refine hK.out _ _ ?_
      clear hK K
      refine done_ (done_of HT_.out (by kernel_rfl)) ?_
      have hcz30_0 : w27.cell? ⟨gb249, 0, none⟩ = some (.int .i64 t252) := (blk_cell BK249.out 0).trans rfl
      have hcz30_1 : w27.cell? ⟨gb249, 1, none⟩ = some (.slice (some ad259) t253.length co23) := (blk_cell BK249.out 1).trans rfl
      have hcz30_2 : w27.cell? ⟨gb249, 2, none⟩ = some (.slice Ao24 t256.length co24) := (blk_cell BK249.out 2).trans rfl
      have hfz30_0 := blk_frozen BK249.out 0
      have hfz30_1 := blk_frozen BK249.out 1
      have hfz30_2 := blk_frozen BK249.out 2
      have hcz31_0 : w27.cell? ⟨gb250, 0, none⟩ = some (.int .i64 0) := (blk_cell BK250.out 0).trans rfl
      have hcz31_1 : w27.cell? ⟨gb250, 1, none⟩ = some (.slice none 0 0) := (blk_cell BK250.out 1).trans rfl
      have hcz31_2 : w27.cell? ⟨gb250, 2, none⟩ = some (.slice none 0 0) := (blk_cell BK250.out 2).trans rfl
      have hfz31_0 := blk_frozen BK250.out 0
      have hfz31_1 := blk_frozen BK250.out 1
      have hfz31_2 := blk_frozen BK250.out 2
      try go_wp2
      refine bodyPost_ret (results_ct rfl _ _ gb250 24 #[.int .i64 t252, .slice Ao28 y260.length co28, .slice Ao24 t256.length co24] (0, 0) _ rfl (by (with_reducible repeat (first | refine blk_drewN ?_ _ | refine blk_drew ?_ | refine blk_alloc ?_ _)); refine blk_put (cs := #[.int .i64 t252, .slice Ao28 y260.length co28, .slice none 0 0]) ?_ 2 _ rfl; (with_reducible repeat (first | refine blk_drewN ?_ _ | refine blk_drew ?_ | refine blk_alloc ?_ _)); refine blk_put (cs := #[.int .i64 t252, .slice none 0 0, .slice none 0 0]) ?_ 1 _ rfl; (with_reducible repeat (first | refine blk_drewN ?_ _ | refine blk_drew ?_ | refine blk_alloc ?_ _)); refine blk_put (cs := #[.int .i64 0, .slice none 0 0, .slice none 0 0]) ?_ 0 _ rfl; (with_reducible repeat (first | refine blk_drewN ?_ _ | refine blk_drew ?_ | refine blk_alloc ?_ _)); refine blk_far ?_ NB250_249.out _; (with_reducible repeat (first | refine blk_drewN ?_ _ | refine blk_drew ?_ | refine blk_alloc ?_ _)); exact BK250.out) Try.underlying24 rfl (by kernel_rfl)) rfl ?_
      exact ⟨_, _, by first | rfl | (simp [errW_none, errW_some] <;> rfl) | (simp [*, errW_none, errW_some] <;> rfl), by (with_reducible repeat (first | apply Kd.R_alloc | apply Kd.R_drewN | apply Kd.R_drew)); exact Kd.R_mono (Kd.R_far (p := ⟨gb250, 2, none⟩) (Kd.R_far (p := ⟨gb250, 1, none⟩) (Kd.R_far (p := ⟨gb250, 0, none⟩) (Kd.R_far (p := ⟨gb249, 1, none⟩) (Kd.R_types (Kd.R_types HO262.out BK249.out (by decide)) BK250.out (by decide)) (fun _ hk => hk.1.2) (.slice Ao28 y260.length co28)) (fun _ hk => hk.2) (.int .i64 t252)) (fun _ hk => hk.2) (.slice Ao28 y260.length co28)) (fun _ hk => hk.2) (.slice Ao24 t256.length co24)) (fun _ hk => hk.1.1), by (with_reducible repeat (first | apply Kd.R_alloc | apply Kd.R_drewN | apply Kd.R_drew)); exact Kd.R_mono (Kd.R_far (p := ⟨gb250, 2, none⟩) (Kd.R_far (p := ⟨gb250, 1, none⟩) (Kd.R_far (p := ⟨gb250, 0, none⟩) (Kd.R_far (p := ⟨gb249, 1, none⟩) (Kd.R_types (Kd.R_types HO258.out BK249.out (by decide)) BK250.out (by decide)) (fun _ hk => hk.1.2) (.slice Ao28 y260.length co28)) (fun _ hk => hk.2) (.int .i64 t252)) (fun _ hk => hk.2) (.slice Ao28 y260.length co28)) (fun _ hk => hk.2) (.slice Ao24 t256.length co24)) (fun _ hk => hk.1.1.2), by repeat (first | (with_reducible first | exact HB.out | apply below_alloc | apply pw_below_drewN | apply below_drew1 | refine below_set ?_ GE249.out | refine below_set ?_ GE250.out) | exact HB.out)⟩
  · replace c4 := Bool.eq_false_iff.mpr c4
    subst c4
    have H1 : (some (0, ([] : List Int), ([] : List Int), 2)) = some (r1, r2, r3, r4) := by rw [if_neg (show ¬ (false = true) by decide)] at H; exact H
    clear H
    have H := H1
    clear H1
    simp only [Option.some.injEq, Prod.mk.injEq] at H
    obtain ⟨rfl, rfl, rfl, rfl⟩ := H
    go_enter Try.func19, Try.ntmps19
    go_wp2_with (first | ((with_reducible refine gate_dst (N := 2) rfl ?_); refine box_event ?hg (N := 2) ?hd (cs := #[.int .i64 a0_0, .slice A0_1 l0_1.length c0_1, .slice A0_2 l0_2.length c0_2]) (t := 24) ?hr ?_; (case hd => rfl); (case hg => rfl); (case hr => first | (go_simp; done) | (go_simp; rfl)); intro gb249 hg w32 hbox hb; have n0_ := Aside0.mk (below_step (by exact pB HB.out) hb); have n1_ := Aside0.mk (hbox); have n2_ := Aside0.mk ((by rw [hg]; exact (below_size (by exact pB HB.out)) : w.heap.size ≤ gb249)); have n3_ := Aside0.mk ((by rw [hg]; exact (below_size (by exact pB HB.out)) : w.heap.size ≤ gb249)); clear HB; have HB := n0_; have BK249 := n1_; have GW249 := n2_; have GE249 := n3_; clear n0_ n1_ n2_ n3_; clear hb hbox hg) | ((with_reducible refine gate_dst (N := 4) rfl ?_); refine box_event ?hg (N := 4) ?hd (cs := #[.int .i64 0, .slice none 0 0, .slice none 0 0]) (t := 24) ?hr ?_; (case hd => rfl); (case hg => rfl); (case hr => first | (go_simp; done) | (go_simp; rfl)); intro gb250 hg w33 hbox hb; have n0_ := Aside0.mk (blk_below (g := gb249) (o := .cells #[.int .i64 a0_0, .slice A0_1 l0_1.length c0_1, .slice A0_2 l0_2.length c0_2] 24 (0, 0)) (by exact pK BK249.out) hb); have n1_ := Aside0.mk (below_step (by exact pB HB.out) hb); have n2_ := Aside0.mk (hbox); have n3_ := Aside0.mk ((by rw [hg]; exact (below_size (by exact pB HB.out)) : w.heap.size ≤ gb250)); have n4_ := Aside0.mk ((by rw [hg]; exact (below_size (by exact pB HB.out)) : w.heap.size ≤ gb250)); have n5_ := Aside0.mk ((by rw [hg]; exact Nat.ne_of_lt (blk_lt (g := gb249) (o := .cells #[.int .i64 a0_0, .slice A0_1 l0_1.length c0_1, .slice A0_2 l0_2.length c0_2] 24 (0, 0)) (by exact pK BK249.out)) : gb249 ≠ gb250)); have n6_ := Aside0.mk ((by rw [hg]; exact Nat.ne_of_gt (blk_lt (g := gb249) (o := .cells #[.int .i64 a0_0, .slice A0_1 l0_1.length c0_1, .slice A0_2 l0_2.length c0_2] 24 (0, 0)) (by exact pK BK249.out)) : gb250 ≠ gb249)); clear BK249; clear HB; have BK249 := n0_; have HB := n1_; have BK250 := n2_; have GW250 := n3_; have GE250 := n4_; have NB249_250 := n5_; have NB250_249 := n6_; clear n0_ n1_ n2_ n3_ n4_ n5_ n6_; clear hb hbox hg; have hnb34 := NB249_250.out; have hnc34 := NB250_249.out; have hcz35_0 : w33.cell? ⟨gb249, 0, none⟩ = some (.int .i64 a0_0) := (blk_cell BK249.out 0).trans rfl; have hcz35_1 : w33.cell? ⟨gb249, 1, none⟩ = some (.slice A0_1 l0_1.length c0_1) := (blk_cell BK249.out 1).trans rfl; have hcz35_2 : w33.cell? ⟨gb249, 2, none⟩ = some (.slice A0_2 l0_2.length c0_2) := (blk_cell BK249.out 2).trans rfl; have hfz35_0 := blk_frozen BK249.out 0; have hfz35_1 := blk_frozen BK249.out 1; have hfz35_2 := blk_frozen BK249.out 2) | ((with_reducible refine gate_callee (f := 33) rfl ?_); refine goesL_ (some 9) rfl rfl Try.func33 (by kernel_rfl) rfl #[.slice A0_1 l0_1.length c0_1, .int .i64 a1] rfl (by (try simp only [List.map_toArray, List.map_cons, List.map_nil]); first | done | rfl | (simp only [List.length_drop, List.length_take]; rfl)) ?_; (with_reducible refine (channel_at.calls _ _ l0_1 a1 false _ ?side1 ?side2 A3.out).mono ?_); (case side1 => exact pC (Kd.C_below HR0_1.out HB.out)); (case side2 => exact HC0_1.out); rintro e w' ⟨rfl, ⟨nd, rfl⟩⟩; refine ⟨_, rfl, ?_⟩; (try (rw [drewN_self w33]; generalize hq_ : World.drewN w33 _ = w33; have n0_ : Aside0 (w33.heap[gb250]? = some (.cells #[.int .i64 0, .slice none 0 0, .slice none 0 0] 24 (0, 0))) := ⟨by rw [← hq_]; exact (by exact pK BK250.out)⟩; have n1_ : Aside0 (Below w.heap.size w w33) := ⟨by rw [← hq_]; exact (by exact pB HB.out)⟩; clear BK250 HB hq_; have BK250 := n0_; have HB := n1_; clear n0_ n1_)); have hcz36_0 : w33.cell? ⟨gb250, 0, none⟩ = some (.int .i64 0) := (blk_cell BK250.out 0).trans rfl; have hcz36_1 : w33.cell? ⟨gb250, 1, none⟩ = some (.slice none 0 0) := (blk_cell BK250.out 1).trans rfl; have hcz36_2 : w33.cell? ⟨gb250, 2, none⟩ = some (.slice none 0 0) := (blk_cell BK250.out 2).trans rfl; have hfz36_0 := blk_frozen BK250.out 0; have hfz36_1 := blk_frozen BK250.out 1; have hfz36_2 := blk_frozen BK250.out 2))
    refine bodyPost_ret (results_ct rfl _ _ gb250 24 #[.int .i64 0, .slice none 0 0, .slice none 0 0] (0, 0) _ rfl (by (with_reducible repeat (first | refine blk_drewN ?_ _ | refine blk_drew ?_ | refine blk_alloc ?_ _)); refine blk_put (cs := #[.int .i64 0, .slice none 0 0, .slice none 0 0]) ?_ 2 _ rfl; (with_reducible repeat (first | refine blk_drewN ?_ _ | refine blk_drew ?_ | refine blk_alloc ?_ _)); refine blk_put (cs := #[.int .i64 0, .slice none 0 0, .slice none 0 0]) ?_ 1 _ rfl; (with_reducible repeat (first | refine blk_drewN ?_ _ | refine blk_drew ?_ | refine blk_alloc ?_ _)); refine blk_put (cs := #[.int .i64 0, .slice none 0 0, .slice none 0 0]) ?_ 0 _ rfl; (with_reducible repeat (first | refine blk_drewN ?_ _ | refine blk_drew ?_ | refine blk_alloc ?_ _)); exact BK250.out) Try.underlying24 rfl (by kernel_rfl)) rfl ?_
    exact ⟨_, _, by first | rfl | (simp [errW_none, errW_some] <;> rfl) | (simp [*, errW_none, errW_some] <;> rfl), by first | exact Kd.R_nil _ _ _ _ _ | exact Kd.N_nil _ _ _ _ _ | exact Kd.V_nil _ _ _ _ _ | exact Kd.Q_nil _ _ _ _ _ | exact Kd.S_nil _ _ _ _ _, by first | exact Kd.R_nil _ _ _ _ _ | exact Kd.N_nil _ _ _ _ _ | exact Kd.V_nil _ _ _ _ _ | exact Kd.Q_nil _ _ _ _ _ | exact Kd.S_nil _ _ _ _ _, by repeat (first | (with_reducible first | exact HB.out | apply below_alloc | apply pw_below_drewN | apply below_drew1 | refine below_set ?_ GE250.out) | exact HB.out)⟩

end Go.Proofs.Ytlhmgigjbeefbaa.PChannelSteps
