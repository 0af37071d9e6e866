-- Printed by a patched copy of the kit's printer (wip/prt); nothing here is trusted, Lean checks it.
import Derived.Test.YthnlepmfjhhgfaaPJournalOpenx0
import Derived.Test.YthnlepmfjhhgfaaPJournalOpenx1
import Derived.Test.YthnlepmfjhhgfaaPJournalOpenx2
import Derived.Test.YthnlepmfjhhgfaaPJournalOpenx3
namespace Go.Proofs.Ythnlepmfjhhgfaa.PJournalOpen
open Go.RowKit Go.Proofs.YthnlepmfjhhgfaaW.PrintWords Go.Proofs.YthnlepmfjhhgfaaW.PrintLast Go.Proofs.YthnlepmfjhhgfaaW.PrintMore
attribute [local go_sem] max2_int min2_int max_two min_two max_three min_three max_four min_four   -- for this text's walks alone
set_option linter.unusedVariables false
set_option linter.unusedSimpArgs false

/-! ### journal_Open: function 38 -/
def journal_Open.l0 : Nat → List Int → List (List Int) → Bool → List (S43) → Int → Int → List Int → List Int → Option (List Int × List Int × List Int × Bool × (List (List Int)))
  | 0, _, _, _, _, _, _, _, _ => none
  | k + 1, x10, x11, x12, x27, x28, x29, x253000, x253001 => if x29 < x28 then (if 0 ≤ x29 then (if x29 < (x27.length : Int) then (if ((rd_T43 x27 x29).f0) = 2 then (journal_Open.l0 k ((rd_T43 x27 x29).f1) ([] : List (List Int)) true x27 x28 (wrap64 (x29 + 1)) x253000 x253001) else (if x11.length < 5864062014805 then (journal_Open.l0 k x10 (x11 ++ [(rd_T43 x27 x29).f1]) x12 x27 x28 (wrap64 (x29 + 1)) x253000 x253001) else (none))) else (none)) else (none)) else (some (x253000, x253001, x10, x12, x11))
def journal_Open.f (k : Nat) (l0_0 : List Int) (l0_1 : List Int) : Option (List Int × List Int × List Int × Bool × (List (List Int))) := (disk_Read.f l0_0 l0_1).bind fun t238 => ((journal_Scan.f k t238).bind fun bt241 => ((disk_Truncate.f l0_0 l0_1 bt241.2).bind fun bt245 => (journal_Open.l0 k ([] : List Int) ([] : List (List Int)) false bt241.1 (bt241.1.length : Int) 0 bt245.1 bt245.2.1)))
theorem journal_Open.mono_l : ∀ k, (∀ y0 y1 y2 y3 y4 y5 y6 y7, LeO (journal_Open.l0 k y0 y1 y2 y3 y4 y5 y6 y7) (journal_Open.l0 (k + 1) y0 y1 y2 y3 y4 y5 y6 y7))
  | 0 => fun _ _ _ _ _ _ _ _ r h => by simp [journal_Open.l0] at h
  | k + 1 => by
    have ih0 := journal_Open.mono_l k
    · intro y0 y1 y2 y3 y4 y5 y6 y7
      unfold journal_Open.l0
      repeat' first
      | (with_reducible exact ih0 _ _ _ _ _ _ _ _)
      | (with_reducible exact journal_Scan.mono _ _)
      | (with_reducible exact LeO.refl _)
      | (with_reducible exact LeO.none _)
      | (with_reducible refine LeO.ite ?_ ?_)
      | (with_reducible refine LeO.bind ?_ (fun _ => ?_))
      | exact ih0 _ _ _ _ _ _ _ _
      | exact journal_Scan.mono _ _
      | exact LeO.none _
      | refine LeO.ite ?_ ?_
      | refine LeO.bind ?_ (fun _ => ?_)
theorem journal_Open.mono : ∀ a0 a1 k, LeO (journal_Open.f k a0 a1) (journal_Open.f (k + 1) a0 a1) := by
  intro a0 a1 k
  have ih0 := journal_Open.mono_l k
  unfold journal_Open.f
  repeat' first
      | (with_reducible exact ih0 _ _ _ _ _ _ _ _)
      | (with_reducible exact journal_Scan.mono _ _)
      | (with_reducible exact LeO.refl _)
      | (with_reducible exact LeO.none _)
      | (with_reducible refine LeO.ite ?_ ?_)
      | (with_reducible refine LeO.bind ?_ (fun _ => ?_))
      | exact ih0 _ _ _ _ _ _ _ _
      | exact journal_Scan.mono _ _
      | exact LeO.none _
      | refine LeO.ite ?_ ?_
      | refine LeO.bind ?_ (fun _ => ?_)
set_option maxHeartbeats 8000000 in
set_option maxRecDepth 100000 in
theorem journal_Open.calls (k : Nat) (A0_0 : Option Addr) (c0_0 : Nat) (l0_0 : List Int) (A0_1 : Option Addr) (c0_1 : Nat) (l0_1 : List Int) (r1 : List Int) (r2 : List Int) (r3 : List Int) (r4 : Bool) (r5 : List (List Int)) (w : World) (hr0_0 : Kd.C (Kd.int .u8) w A0_0 l0_0.length l0_0) (hc0_0 : l0_0.length ≤ c0_0) (hr0_1 : Kd.C (Kd.int .u8) w A0_1 l0_1.length l0_1) (hc0_1 : l0_1.length ≤ c0_1) (h : journal_Open.f k l0_0 l0_1 = some (r1, r2, r3, r4, r5)) :
    Calls Try.prog 38 #[.agg #[.slice A0_0 l0_0.length c0_0, .slice A0_1 l0_1.length c0_1]] w fun e w' => ∃ v0_ v1_ v2_ v4_ : Value, e = .returned (.tuple #[.agg #[v0_, v1_], v2_, .bool r4, v4_]) ∧ Kd.V (Kd.int .u8) 5 w' w.heap.size (fun k_ => (w.heap.size ≤ k_) ∧ some k_ ≠ (v1_ : Value).ownBlock ∧ some k_ ≠ (v4_ : Value).ownBlock) v0_ r1 ∧ Kd.R (Kd.int .u8) 5 w' w.heap.size (fun k_ => (w.heap.size ≤ k_)) v1_ r2 ∧ Kd.V (Kd.int .u8) 5 w' w.heap.size (fun k_ => (w.heap.size ≤ k_) ∧ some k_ ≠ (v1_ : Value).ownBlock ∧ some k_ ≠ (v4_ : Value).ownBlock) v2_ r3 ∧ Kd.N (Kd.slice 5 (Kd.int .u8)) 22 w' w.heap.size (fun k_ => (w.heap.size ≤ k_) ∧ some k_ ≠ (v1_ : Value).ownBlock) v4_ r5 ∧ Below w.heap.size w w' := by
  have hu24 := Try.underlying24
  have hu43 := Try.underlying43
  have HR0_0 := Aside0.mk hr0_0
  have HC0_0 := Aside0.mk hc0_0
  clear hr0_0 hc0_0
  have HR0_1 := Aside0.mk hr0_1
  have HC0_1 := Aside0.mk hc0_1
  clear hr0_1 hc0_1
  have HB := Aside0.mk (Below.refl w.heap.size w)
  have H : ((disk_Read.f l0_0 l0_1).bind fun t238 => ((journal_Scan.f k t238).bind fun bt241 => ((disk_Truncate.f l0_0 l0_1 bt241.2).bind fun bt245 => (journal_Open.l0 k ([] : List Int) ([] : List (List Int)) false bt241.1 (bt241.1.length : Int) 0 bt245.1 bt245.2.1)))) = some (r1, r2, r3, r4, r5) := h
  clear h
  replace H := Option.bind_eq_some_iff.mp H
  obtain ⟨t238, A20, H⟩ := H
  replace H : ((journal_Scan.f k t238).bind fun bt241 => ((disk_Truncate.f l0_0 l0_1 bt241.2).bind fun bt245 => (journal_Open.l0 k ([] : List Int) ([] : List (List Int)) false bt241.1 (bt241.1.length : Int) 0 bt245.1 bt245.2.1))) = some (r1, r2, r3, r4, r5) := H
  have A2 := Aside0.mk A20
  clear A20
  replace H := Option.bind_eq_some_iff.mp H
  obtain ⟨⟨t241, t242⟩, A30, H⟩ := H
  replace H : ((disk_Truncate.f l0_0 l0_1 t242).bind fun bt245 => (journal_Open.l0 k ([] : List Int) ([] : List (List Int)) false t241 (t241.length : Int) 0 bt245.1 bt245.2.1)) = some (r1, r2, r3, r4, r5) := H
  have A3 := Aside0.mk A30
  clear A30
  replace H := Option.bind_eq_some_iff.mp H
  obtain ⟨⟨t245, t248, t251⟩, A40, H⟩ := H
  replace H : (journal_Open.l0 k ([] : List Int) ([] : List (List Int)) false t241 (t241.length : Int) 0 t245 t248) = some (r1, r2, r3, r4, r5) := H
  have A4 := Aside0.mk A40
  clear A40
  have H' := Aside0.mk H
  clear H
  go_enter Try.func38, Try.ntmps38
  go_wp2_with (first | ((with_reducible refine gate_dst (N := 1) rfl ?_); refine box_event ?hg (N := 1) ?hd (cs := #[.slice A0_0 l0_0.length c0_0, .slice A0_1 l0_1.length c0_1]) (t := 24) ?hr ?_; (case hd => rfl); (case hg => rfl); (case hr => first | (go_simp; done) | (go_simp; rfl)); intro gb236 hg w5 hbox hb; have n0_ := Aside0.mk (below_step (by exact pB HB.out) hb); have n1_ := Aside0.mk (hbox); have n2_ := Aside0.mk ((by rw [hg]; exact (below_size (by exact pB HB.out)) : w.heap.size ≤ gb236)); have n3_ := Aside0.mk ((by rw [hg]; exact (below_size (by exact pB HB.out)) : w.heap.size ≤ gb236)); clear HB; have HB := n0_; have BK236 := n1_; have GW236 := n2_; have GE236 := n3_; clear n0_ n1_ n2_ n3_; clear hb hbox hg) | ((with_reducible refine gate_dst (N := 2) rfl ?_); refine box_event ?hg (N := 2) ?hd (cs := #[.slice none 0 0, .slice none 0 0]) (t := 24) ?hr ?_; (case hd => rfl); (case hg => rfl); (case hr => first | (go_simp; done) | (go_simp; rfl)); intro gb237 hg w6 hbox hb; have n0_ := Aside0.mk (blk_below (g := gb236) (o := .cells #[.slice A0_0 l0_0.length c0_0, .slice A0_1 l0_1.length c0_1] 24 (0, 0)) (by exact pK BK236.out) hb); have n1_ := Aside0.mk (below_step (by exact pB HB.out) hb); have n2_ := Aside0.mk (hbox); have n3_ := Aside0.mk ((by rw [hg]; exact (below_size (by exact pB HB.out)) : w.heap.size ≤ gb237)); have n4_ := Aside0.mk ((by rw [hg]; exact (below_size (by exact pB HB.out)) : w.heap.size ≤ gb237)); have n5_ := Aside0.mk ((by rw [hg]; exact Nat.ne_of_lt (blk_lt (g := gb236) (o := .cells #[.slice A0_0 l0_0.length c0_0, .slice A0_1 l0_1.length c0_1] 24 (0, 0)) (by exact pK BK236.out)) : gb236 ≠ gb237)); have n6_ := Aside0.mk ((by rw [hg]; exact Nat.ne_of_gt (blk_lt (g := gb236) (o := .cells #[.slice A0_0 l0_0.length c0_0, .slice A0_1 l0_1.length c0_1] 24 (0, 0)) (by exact pK BK236.out)) : gb237 ≠ gb236)); clear BK236; clear HB; have BK236 := n0_; have HB := n1_; have BK237 := n2_; have GW237 := n3_; have GE237 := n4_; have NB236_237 := n5_; have NB237_236 := n6_; clear n0_ n1_ n2_ n3_ n4_ n5_ n6_; clear hb hbox hg; have hnb7 := NB236_237.out; have hnc7 := NB237_236.out; have hcz8_0 : w6.cell? ⟨gb236, 0, none⟩ = some (.slice A0_0 l0_0.length c0_0) := (blk_cell BK236.out 0).trans rfl; have hcz8_1 : w6.cell? ⟨gb236, 1, none⟩ = some (.slice A0_1 l0_1.length c0_1) := (blk_cell BK236.out 1).trans rfl; have hfz8_0 := blk_frozen BK236.out 0; have hfz8_1 := blk_frozen BK236.out 1) | ((with_reducible refine gate_callee (f := 18) rfl ?_); refine goesL_ (some 17) rfl rfl Try.func18 (by kernel_rfl) rfl #[.agg #[.slice A0_0 l0_0.length c0_0, .slice A0_1 l0_1.length c0_1]] rfl (by (try simp only [List.map_toArray, List.map_cons, List.map_nil]); first | done | rfl | (simp only [List.length_drop, List.length_take]; rfl)) ?_; (with_reducible refine (disk_Read.calls _ _ l0_0 _ _ l0_1 t238 _ ?side1 ?side2 ?side3 ?side4 A2.out).mono ?_); (case side1 => exact pC (Kd.C_below HR0_0.out HB.out)); (case side2 => exact HC0_0.out); (case side3 => exact pC (Kd.C_below HR0_1.out HB.out)); (case side4 => exact HC0_1.out); rintro e w9 ⟨v239, rfl, ho0, hb⟩; refine ⟨_, rfl, ?_⟩; have n0_ := Aside0.mk (Kd.R_lower (Kd.R_newM (M := fun k_ => (w.heap.size ≤ k_)) ho0 (below_size (by exact pB HB.out)) (fun k_ h_ => h_)) (below_size (by exact pB HB.out))); have n1_ := Aside0.mk (blk_below (g := gb236) (o := .cells #[.slice A0_0 l0_0.length c0_0, .slice A0_1 l0_1.length c0_1] 24 (0, 0)) (by exact pK BK236.out) hb); have n2_ := Aside0.mk (blk_below (g := gb237) (o := .cells #[.slice none 0 0, .slice none 0 0] 24 (0, 0)) (by exact pK BK237.out) hb); have n3_ := Aside0.mk (below_step (by exact pB HB.out) hb); clear BK236; clear BK237; clear HB; have HO240 := n0_; have BK236 := n1_; have BK237 := n2_; have HB := n3_; clear n0_ n1_ n2_ n3_; (try clear hb); (try clear hb2); (try clear hk); (try clear hi); (try clear ho0); obtain ⟨Ao10, co10, eo10⟩ := Kd.R_slice HO240.out; subst eo10) | ((with_reducible refine gate_callee (f := 30) rfl ?_); refine goesL_ (some 18) rfl rfl Try.func30 (by kernel_rfl) rfl #[.slice Ao10 t238.length co10] rfl (by (try simp only [List.map_toArray, List.map_cons, List.map_nil]); first | done | rfl | (simp only [List.length_drop, List.length_take]; rfl)) ?_; (with_reducible refine (journal_Scan.calls k _ _ t238 t241 t242 _ ?side1 ?side2 A3.out).mono ?_); (case side1 => exact pC (Kd.R_reads' HO240.out).2.2); (case side2 => exact (Kd.R_reads' HO240.out).2.1); rintro e w11 ⟨v243, rfl, ho0, hb⟩; refine ⟨_, rfl, ?_⟩; have n0_ := Aside0.mk (Kd.R_below (by exact pR HO240.out) hb); have n1_ := Aside0.mk (Kd.N_lower (Kd.N_mono (ok' := fun k_ => (w.heap.size ≤ k_) ∧ some k_ ≠ (.slice Ao10 t238.length co10 : Value).ownBlock ∧ k_ ≠ gb236 ∧ k_ ≠ gb237) (Kd.S_N (Kd.S_bound ho0)) (fun k_ hk_ => ⟨(Nat.le_trans (below_size (by exact pB HB.out)) hk_.2.1), (Kd.fresh' (Kd.R_lt (by exact pR HO240.out)) k_ hk_.2.1), (Kd.freshB (g := gb236) (o := .cells #[.slice A0_0 l0_0.length c0_0, .slice A0_1 l0_1.length c0_1] 24 (0, 0)) (by exact pK BK236.out) k_ hk_.2.1), (Kd.freshB (g := gb237) (o := .cells #[.slice none 0 0, .slice none 0 0] 24 (0, 0)) (by exact pK BK237.out) k_ hk_.2.1)⟩)) (below_size (by exact pB HB.out))); have n2_ := Aside0.mk (blk_below (g := gb236) (o := .cells #[.slice A0_0 l0_0.length c0_0, .slice A0_1 l0_1.length c0_1] 24 (0, 0)) (by exact pK BK236.out) hb); have n3_ := Aside0.mk (blk_below (g := gb237) (o := .cells #[.slice none 0 0, .slice none 0 0] 24 (0, 0)) (by exact pK BK237.out) hb); have n4_ := Aside0.mk (below_step (by exact pB HB.out) hb); clear HO240; clear BK236; clear BK237; clear HB; have HO240 := n0_; have HO244 := n1_; have BK236 := n2_; have BK237 := n3_; have HB := n4_; clear n0_ n1_ n2_ n3_ n4_; (try clear hb); (try clear hb2); (try clear hk); (try clear hi); (try clear ho0); have hcz12_0 : w11.cell? ⟨gb236, 0, none⟩ = some (.slice A0_0 l0_0.length c0_0) := (blk_cell BK236.out 0).trans rfl; have hcz12_1 : w11.cell? ⟨gb236, 1, none⟩ = some (.slice A0_1 l0_1.length c0_1) := (blk_cell BK236.out 1).trans rfl; have hfz12_0 := blk_frozen BK236.out 0; have hfz12_1 := blk_frozen BK236.out 1) | ((with_reducible refine gate_callee (f := 24) rfl ?_); refine goesL_ (some 24) rfl rfl Try.func24 (by kernel_rfl) rfl #[.agg #[.slice A0_0 l0_0.length c0_0, .slice A0_1 l0_1.length c0_1], .int .i64 t242] rfl (by (try simp only [List.map_toArray, List.map_cons, List.map_nil]); first | done | rfl | (simp only [List.length_drop, List.length_take]; rfl)) ?_; (with_reducible refine (disk_Truncate.calls _ _ l0_0 _ _ l0_1 t242 t245 t248 t251 _ ?side1 ?side2 ?side3 ?side4 A4.out).mono ?_); (case side1 => exact pC (Kd.C_below HR0_0.out HB.out)); (case side2 => exact HC0_0.out); (case side3 => exact pC (Kd.C_below HR0_1.out HB.out)); (case side4 => exact HC0_1.out); rintro e w13 ⟨v246, v249, rfl, ho0, ho1, hb⟩; refine ⟨_, rfl, ?_⟩; have n0_ := Aside0.mk (Kd.N_elder' (by exact pN HO244.out) (Kd.R_base ho1) hb); have n1_ := Aside0.mk (Kd.V_lower (Kd.V_mono (ok' := fun k_ => (w.heap.size ≤ k_) ∧ some k_ ≠ (v249 : Value).ownBlock ∧ some k_ ≠ (v243 : Value).ownBlock ∧ k_ ≠ gb236 ∧ k_ ≠ gb237) ho0 (fun k_ hk_ => ⟨(Nat.le_trans (below_size (by exact pB HB.out)) hk_.1), hk_.2, (Kd.fresh' (Kd.N_lt (by exact pN HO244.out)) k_ hk_.1), (Kd.freshB (g := gb236) (o := .cells #[.slice A0_0 l0_0.length c0_0, .slice A0_1 l0_1.length c0_1] 24 (0, 0)) (by exact pK BK236.out) k_ hk_.1), (Kd.freshB (g := gb237) (o := .cells #[.slice none 0 0, .slice none 0 0] 24 (0, 0)) (by exact pK BK237.out) k_ hk_.1)⟩)) (below_size (by exact pB HB.out))); have n2_ := Aside0.mk (Kd.R_lower (Kd.R_newM (M := fun k_ => (w.heap.size ≤ k_)) (Kd.R_mono (ok' := fun k_ => True) ho1 (fun _ hk_ => trivial)) (below_size (by exact pB HB.out)) (fun k_ h_ => h_)) (below_size (by exact pB HB.out))); have n3_ := Aside0.mk (blk_below (g := gb236) (o := .cells #[.slice A0_0 l0_0.length c0_0, .slice A0_1 l0_1.length c0_1] 24 (0, 0)) (by exact pK BK236.out) hb); have n4_ := Aside0.mk (blk_below (g := gb237) (o := .cells #[.slice none 0 0, .slice none 0 0] 24 (0, 0)) (by exact pK BK237.out) hb); have n5_ := Aside0.mk (below_step (by exact pB HB.out) hb); clear HO244; clear BK236; clear BK237; clear HB; have HO244 := n0_; have HO247 := n1_; have HO250 := n2_; have BK236 := n3_; have BK237 := n4_; have HB := n5_; clear n0_ n1_ n2_ n3_ n4_ n5_; (try clear hb); (try clear hb2); (try clear hk); (try clear hi); (try clear ho0); (try clear ho1)) | ((with_reducible refine gate_dst (N := 8) rfl ?_); refine box_event ?hg (N := 8) ?hd (cs := #[.slice none 0 0, .slice none 0 0]) (t := 24) ?hr ?_; (case hd => rfl); (case hg => rfl); (case hr => first | (go_simp; done) | (go_simp; rfl)); intro gb252 hg w14 hbox hb; have n0_ := Aside0.mk (Kd.N_below (Kd.N_elderB (by exact pN HO244.out) gb252 (Nat.le_of_eq hg.symm)) hb); have n1_ := Aside0.mk (Kd.V_below (Kd.V_elderB (by exact pV HO247.out) gb252 (Nat.le_of_eq hg.symm)) hb); have n2_ := Aside0.mk (Kd.R_below (by exact pR HO250.out) hb); have n3_ := Aside0.mk (blk_below (g := gb236) (o := .cells #[.slice A0_0 l0_0.length c0_0, .slice A0_1 l0_1.length c0_1] 24 (0, 0)) (by exact pK BK236.out) hb); have n4_ := Aside0.mk (blk_below (g := gb237) (o := .cells #[.slice none 0 0, .slice none 0 0] 24 (0, 0)) (by exact pK BK237.out) hb); have n5_ := Aside0.mk (below_step (by exact pB HB.out) hb); have n6_ := Aside0.mk (hbox); have n7_ := Aside0.mk ((by rw [hg]; exact (below_size (by exact pB HB.out)) : w.heap.size ≤ gb252)); have n8_ := Aside0.mk ((by rw [hg]; exact (below_size (by exact pB HB.out)) : w.heap.size ≤ gb252)); have n9_ := Aside0.mk ((by rw [hg]; exact Nat.ne_of_lt (blk_lt (g := gb236) (o := .cells #[.slice A0_0 l0_0.length c0_0, .slice A0_1 l0_1.length c0_1] 24 (0, 0)) (by exact pK BK236.out)) : gb236 ≠ gb252)); have n10_ := Aside0.mk ((by rw [hg]; exact Nat.ne_of_gt (blk_lt (g := gb236) (o := .cells #[.slice A0_0 l0_0.length c0_0, .slice A0_1 l0_1.length c0_1] 24 (0, 0)) (by exact pK BK236.out)) : gb252 ≠ gb236)); have n11_ := Aside0.mk ((by rw [hg]; exact Nat.ne_of_lt (blk_lt (g := gb237) (o := .cells #[.slice none 0 0, .slice none 0 0] 24 (0, 0)) (by exact pK BK237.out)) : gb237 ≠ gb252)); have n12_ := Aside0.mk ((by rw [hg]; exact Nat.ne_of_gt (blk_lt (g := gb237) (o := .cells #[.slice none 0 0, .slice none 0 0] 24 (0, 0)) (by exact pK BK237.out)) : gb252 ≠ gb237)); clear HO244; clear HO247; clear HO250; clear BK236; clear BK237; clear HB; have HO244 := n0_; have HO247 := n1_; have HO250 := n2_; have BK236 := n3_; have BK237 := n4_; have HB := n5_; have BK252 := n6_; have GW252 := n7_; have GE252 := n8_; have NB236_252 := n9_; have NB252_236 := n10_; have NB237_252 := n11_; have NB252_237 := n12_; clear n0_ n1_ n2_ n3_ n4_ n5_ n6_ n7_ n8_ n9_ n10_ n11_ n12_; clear hb hbox hg; obtain ⟨Ao15, co15, eo15⟩ := Kd.V_slice HO247.out; subst eo15; have hnb16 := NB252_236.out; have hnc16 := NB236_252.out; have hnb17 := NB252_237.out; have hnc17 := NB237_252.out; have hcz18_0 : w14.cell? ⟨gb252, 0, none⟩ = some (.slice none 0 0) := (blk_cell BK252.out 0).trans rfl; have hcz18_1 : w14.cell? ⟨gb252, 1, none⟩ = some (.slice none 0 0) := (blk_cell BK252.out 1).trans rfl; have hfz18_0 := blk_frozen BK252.out 0; have hfz18_1 := blk_frozen BK252.out 1; obtain ⟨Ao19, co19, eo19⟩ := Kd.R_slice HO250.out; subst eo19; obtain ⟨Ao20, co20, eo20⟩ := Kd.N_slice HO244.out; subst eo20))
  go_loopg [10, 11, 12, 29] k (fun kq v10 v11 v12 v29 w' => ∃ (x10_1 : List Int) (x11_1 : List (List Int)) (x12_1 : Bool) (x29_1 : Int), v12 = .bool x12_1 ∧ v29 = .int .i64 x29_1 ∧ Aside0 (journal_Open.l0 kq x10_1 x11_1 x12_1 t241 (t241.length : Int) x29_1 t245 t248 = some (r1, r2, r3, r4, r5)) ∧ Aside0 (kq ≤ k) ∧ Aside0 (Kd.V (Kd.int .u8) 5 w' w.heap.size (fun k_ => (w.heap.size ≤ k_) ∧ some k_ ≠ (v11 : Value).ownBlock ∧ some k_ ≠ ((.slice Ao20 t241.length co20) : Value).ownBlock ∧ some k_ ≠ ((.slice Ao19 t248.length co19) : Value).ownBlock ∧ k_ ≠ gb236 ∧ k_ ≠ gb237 ∧ k_ ≠ gb252) v10 x10_1) ∧ Aside0 (Kd.N (Kd.slice 5 (Kd.int .u8)) 22 w' w.heap.size (fun k_ => (w.heap.size ≤ k_) ∧ some k_ ≠ ((.slice Ao20 t241.length co20) : Value).ownBlock ∧ some k_ ≠ ((.slice Ao19 t248.length co19) : Value).ownBlock ∧ k_ ≠ gb236 ∧ k_ ≠ gb237 ∧ k_ ≠ gb252) v11 x11_1) ∧ Aside0 (Kd.N k43 43 w' w.heap.size (fun k_ => (w.heap.size ≤ k_) ∧ some k_ ≠ (v11 : Value).ownBlock ∧ some k_ ≠ ((.slice Ao19 t248.length co19) : Value).ownBlock ∧ k_ ≠ gb236 ∧ k_ ≠ gb237 ∧ k_ ≠ gb252) (.slice Ao20 t241.length co20) t241) ∧ Aside0 (Kd.V (Kd.int .u8) 5 w' w.heap.size (fun k_ => (w.heap.size ≤ k_) ∧ some k_ ≠ (v11 : Value).ownBlock ∧ some k_ ≠ ((.slice Ao20 t241.length co20) : Value).ownBlock ∧ some k_ ≠ ((.slice Ao19 t248.length co19) : Value).ownBlock ∧ k_ ≠ gb236 ∧ k_ ≠ gb237 ∧ k_ ≠ gb252) (.slice Ao15 t245.length co15) t245) ∧ Aside0 (Kd.R (Kd.int .u8) 5 w' w.heap.size (fun k_ => (w.heap.size ≤ k_)) (.slice Ao19 t248.length co19) t248) ∧ Aside0 (w'.heap[gb236]? = some (.cells #[(.slice A0_0 l0_0.length c0_0), (.slice A0_1 l0_1.length c0_1)] 24 (0, 0))) ∧ Aside0 (w'.heap[gb237]? = some (.cells #[(.slice none 0 0), (.slice none 0 0)] 24 (0, 0))) ∧ Aside0 (w'.heap[gb252]? = some (.cells #[(.slice Ao15 t245.length co15), (.slice Ao19 t248.length co19)] 24 (0, 0))) ∧ Aside0 (Below w.heap.size w w'))
  case atStart => exact ⟨(([] : List Int)), (([] : List (List Int))), (false), (0), (by first | rfl | (simp; done) | (simp [*]; done)), (by first | rfl | (simp; done) | (simp [*]; done)), H', ⟨Nat.le_refl _⟩, ⟨by first | exact Kd.R_nil _ _ _ _ _ | exact Kd.N_nil _ _ _ _ _ | exact Kd.V_nil _ _ _ _ _ | exact Kd.Q_nil _ _ _ _ _ | exact Kd.S_nil _ _ _ _ _⟩, ⟨by first | exact Kd.S_nil _ _ _ _ _ | exact Kd.N_nil _ _ _ _ _ | exact Kd.V_nil _ _ _ _ _ | exact Kd.Q_nil _ _ _ _ _ | exact Kd.R_nil _ _ _ _ _⟩, ⟨by (with_reducible repeat (first | apply Kd.N_alloc | apply Kd.N_drewN | apply Kd.N_drew)); exact Kd.N_mono (Kd.N_far (p := ⟨gb252, 1, none⟩) (Kd.N_far (p := ⟨gb252, 0, none⟩) (Kd.N_mono HO244.out (fun k_ hk => (⟨hk, hk.2⟩ : _ ∧ k_ ≠ gb252))) (fun _ hk => hk.2) (.slice Ao15 t245.length co15)) (fun _ hk => hk.2) (.slice Ao19 t248.length co19)) (fun _ hk => ⟨hk.1.1.1.1, ⟨(by simp [Value.ownBlock]), ⟨hk.1.1.2, ⟨hk.1.1.1.2.2.1, ⟨hk.1.1.1.2.2.2, hk.1.2⟩⟩⟩⟩⟩)⟩, ⟨by (with_reducible repeat (first | apply Kd.V_alloc | apply Kd.V_drewN | apply Kd.V_drew)); exact Kd.V_mono (Kd.V_far (p := ⟨gb252, 1, none⟩) (Kd.V_far (p := ⟨gb252, 0, none⟩) (Kd.V_mono HO247.out (fun k_ hk => (⟨hk, hk.2⟩ : _ ∧ k_ ≠ gb252))) (fun _ hk => hk.2) (.slice Ao15 t245.length co15)) (fun _ hk => hk.2) (.slice Ao19 t248.length co19)) (fun _ hk => ⟨hk.1.1.1, ⟨(by simp [Value.ownBlock]), ⟨hk.1.1.2.2.1, ⟨hk.1.1.2.1, ⟨hk.1.1.2.2.2.1, ⟨hk.1.1.2.2.2.2, hk.1.2⟩⟩⟩⟩⟩⟩)⟩, ⟨by (with_reducible repeat (first | apply Kd.R_alloc | apply Kd.R_drewN | apply Kd.R_drew)); exact Kd.R_mono (Kd.R_far (p := ⟨gb252, 1, none⟩) (Kd.R_far (p := ⟨gb252, 0, none⟩) (Kd.R_types HO250.out BK252.out (by decide)) (fun _ hk => hk.2) (.slice Ao15 t245.length co15)) (fun _ hk => hk.2) (.slice Ao19 t248.length co19)) (fun _ hk => hk.1.1)⟩, ⟨by (with_reducible repeat (first | refine blk_drewN ?_ _ | refine blk_drew ?_ | refine blk_alloc ?_ _)); refine blk_far ?_ NB236_252.out _; (with_reducible repeat (first | refine blk_drewN ?_ _ | refine blk_drew ?_ | refine blk_alloc ?_ _)); refine blk_far ?_ NB236_252.out _; (with_reducible repeat (first | refine blk_drewN ?_ _ | refine blk_drew ?_ | refine blk_alloc ?_ _)); exact BK236.out⟩, ⟨by (with_reducible repeat (first | refine blk_drewN ?_ _ | refine blk_drew ?_ | refine blk_alloc ?_ _)); refine blk_far ?_ NB237_252.out _; (with_reducible repeat (first | refine blk_drewN ?_ _ | refine blk_drew ?_ | refine blk_alloc ?_ _)); refine blk_far ?_ NB237_252.out _; (with_reducible repeat (first | refine blk_drewN ?_ _ | refine blk_drew ?_ | refine blk_alloc ?_ _)); exact BK237.out⟩, ⟨by (with_reducible repeat (first | refine blk_drewN ?_ _ | refine blk_drew ?_ | refine blk_alloc ?_ _)); refine blk_put (cs := #[.slice Ao15 t245.length co15, .slice none 0 0]) ?_ 1 _ rfl; (with_reducible repeat (first | refine blk_drewN ?_ _ | refine blk_drew ?_ | refine blk_alloc ?_ _)); refine blk_put (cs := #[.slice none 0 0, .slice none 0 0]) ?_ 0 _ rfl; (with_reducible repeat (first | refine blk_drewN ?_ _ | refine blk_drew ?_ | refine blk_alloc ?_ _)); exact BK252.out⟩, ⟨by repeat (first | (with_reducible first | exact HB.out | apply below_alloc | apply pw_below_drewN | apply below_drew1 | refine below_set ?_ GE236.out | refine below_set ?_ GE237.out | refine below_set ?_ GE252.out) | exact HB.out)⟩⟩
  case round =>
    clear H'
    try clear c1
    try clear c2
    try clear p2
    try clear c3
    try clear c7
    try clear c16
    try clear c17
    try clear c18
    try clear hcz12_0
    try clear hcz12_1
    try clear hcz18_0
    try clear hcz18_1
    try clear hcz8_0
    try clear hcz8_1
    try clear hfz12_0
    try clear hfz12_1
    try clear hfz18_0
    try clear hfz18_1
    try clear hfz8_0
    try clear hfz8_1
    obtain ⟨x10_1, x11_1, x12_1, x29_1, rfl, rfl, HA, HK1, HO_10, HO_11, HO_27, HO_253000, HO_253001, BK236, BK237, BK252, HB⟩ := hrel
    cases gk with
    | zero => exact absurd HA.out (by simp [journal_Open.l0])
    | succ k1 =>
      have H := HA.out
      clear HA
      simp only [journal_Open.l0] at H
      by_cases c21 : x29_1 < (t241.length : Int)
      · rw [if_pos c21] at H
        have c21b0 : decide (x29_1 < (t241.length : Int)) = true := decide_eq_true c21
        clear c21
        have c22 : 0 ≤ x29_1 := by
          refine Classical.byContradiction fun c22 => ?_
          rw [if_neg c22] at H
          exact absurd H (by simp)
        rw [if_pos c22] at H
        have c22b0 : decide (0 ≤ x29_1) = true := decide_eq_true c22
        clear c22
        have c23 : x29_1 < (t241.length : Int) := by
          refine Classical.byContradiction fun c23 => ?_
          rw [if_neg c23] at H
          exact absurd H (by simp)
        rw [if_pos c23] at H
        have c23b0 : decide (x29_1 < (t241.length : Int)) = true := decide_eq_true c23
        clear c23
        by_cases c24 : ((rd_T43 t241 x29_1).f0) = 2
        · rw [if_pos c24] at H
          have c24b0 : (((rd_T43 t241 x29_1).f0) == 2) = true := beq_iff_eq.mpr c24
          have c24b1 : (((rd_T43 t241 x29_1).f0) != 2) = false := bne_eq_false_iff_eq.mpr c24
          clear c24
          have H' := Aside0.mk H
          clear H
          have p253 : 0 ≤ (x29_1 : Int) := of_decide_eq_true (by first | (with_reducible assumption) | assumption)
          have q253 : x29_1 < (t241.length : Int) := of_decide_eq_true (by first | (with_reducible assumption) | assumption)
          obtain ⟨ad253, A253_1, c253_1, e253, hx253_0, hx253_1, hl253_1, hi253_1⟩ := at_T43 (Kd.N_reads' HO_27.out).2.2 x29_1 p253 q253
          cases e253
          obtain ⟨ce253, hce253, hMe253, hcc253⟩ := Kd.N_get HO_27.out z43 x29_1 p253 (by first | exact q253 | exact of_decide_eq_true (by first | (with_reducible assumption) | assumption) | (have e_ := (Kd.N_reads' HO_27.out).1; omega))
          obtain ⟨ua253_1, uc253_1, rfl, ul253_1, ge253_1⟩ := k43_openF hMe253
          have hv253_1 := hcc253 1 _ rfl
          rw [add_field _ _ 1 (by omega)] at hv253_1
          replace hv253_1 := Option.some.inj (hv253_1.symm.trans hx253_1)
          injection hv253_1 with hva_ hvn_ hvc_
          rw [hva_] at ge253_1
          rw [hvc_] at ul253_1
          have HL253_1 := Aside0.mk (show Kd.V (Kd.int .u8) 5 _ w.heap.size _ _ ((rd_T43 t241 x29_1).f1) from Kd.V_mk ul253_1 ge253_1)
          clear hva_ hvn_ hvc_ ge253_1 ul253_1
          clear hcc253 hce253
          have HR253_1 := Aside0.mk hi253_1
          have HC253_1 := Aside0.mk hl253_1
          clear hi253_1 hl253_1
          replace p253 := eq_true p253
          replace q253 := eq_true q253
          go_wp2_with (first | ((with_reducible refine gate_dst (N := 14) rfl ?_); refine box_event ?hg (N := 14) ?hd (cs := #[.int .i64 0, .slice none 0 0]) (t := 43) ?hr ?_; (case hd => rfl); (case hg => rfl); (case hr => first | (go_simp; done) | (go_simp; rfl)); intro gb254 hg w25 hbox hb; have n0_ := Aside0.mk (Kd.N_below (Kd.N_elderB (by exact pN HO_27.out) gb254 (Nat.le_of_eq hg.symm)) hb); have n1_ := Aside0.mk (Kd.V_below (Kd.V_elderB (by exact pV HO_253000.out) gb254 (Nat.le_of_eq hg.symm)) hb); have n2_ := Aside0.mk (Kd.R_below (by exact pR HO_253001.out) hb); have n3_ := Aside0.mk (Kd.V_below (Kd.V_elderB (by exact pV HL253_1.out) gb254 (Nat.le_of_eq hg.symm)) hb); have n4_ := Aside0.mk (blk_below (g := gb236) (o := .cells #[.slice A0_0 l0_0.length c0_0, .slice A0_1 l0_1.length c0_1] 24 (0, 0)) (by exact pK BK236.out) hb); have n5_ := Aside0.mk (blk_below (g := gb237) (o := .cells #[.slice none 0 0, .slice none 0 0] 24 (0, 0)) (by exact pK BK237.out) hb); have n6_ := Aside0.mk (blk_below (g := gb252) (o := .cells #[.slice Ao15 t245.length co15, .slice Ao19 t248.length co19] 24 (0, 0)) (by exact pK BK252.out) hb); have n7_ := Aside0.mk (Kd.C_below (by exact pC HR253_1.out) hb); have n8_ := Aside0.mk (below_step (by exact pB HB.out) hb); have n9_ := Aside0.mk (hbox); have n10_ := Aside0.mk ((by rw [hg]; exact (below_size (by exact pB HB.out)) : w.heap.size ≤ gb254)); have n11_ := Aside0.mk ((by rw [hg]; exact (below_size (by exact pB HB.out)) : w.heap.size ≤ gb254)); have n12_ := Aside0.mk ((by rw [hg]; exact Nat.ne_of_lt (blk_lt (g := gb236) (o := .cells #[.slice A0_0 l0_0.length c0_0, .slice A0_1 l0_1.length c0_1] 24 (0, 0)) (by exact pK BK236.out)) : gb236 ≠ gb254)); have n13_ := Aside0.mk ((by rw [hg]; exact Nat.ne_of_gt (blk_lt (g := gb236) (o := .cells #[.slice A0_0 l0_0.length c0_0, .slice A0_1 l0_1.length c0_1] 24 (0, 0)) (by exact pK BK236.out)) : gb254 ≠ gb236)); have n14_ := Aside0.mk ((by rw [hg]; exact Nat.ne_of_lt (blk_lt (g := gb237) (o := .cells #[.slice none 0 0, .slice none 0 0] 24 (0, 0)) (by exact pK BK237.out)) : gb237 ≠ gb254)); have n15_ := Aside0.mk ((by rw [hg]; exact Nat.ne_of_gt (blk_lt (g := gb237) (o := .cells #[.slice none 0 0, .slice none 0 0] 24 (0, 0)) (by exact pK BK237.out)) : gb254 ≠ gb237)); have n16_ := Aside0.mk ((by rw [hg]; exact Nat.ne_of_lt (blk_lt (g := gb252) (o := .cells #[.slice Ao15 t245.length co15, .slice Ao19 t248.length co19] 24 (0, 0)) (by exact pK BK252.out)) : gb252 ≠ gb254)); have n17_ := Aside0.mk ((by rw [hg]; exact Nat.ne_of_gt (blk_lt (g := gb252) (o := .cells #[.slice Ao15 t245.length co15, .slice Ao19 t248.length co19] 24 (0, 0)) (by exact pK BK252.out)) : gb254 ≠ gb252)); clear HO_27; clear HO_253000; clear HO_253001; clear HL253_1; clear BK236; clear BK237; clear BK252; clear HR253_1; clear HB; have HO_27 := n0_; have HO_253000 := n1_; have HO_253001 := n2_; have HL253_1 := n3_; have BK236 := n4_; have BK237 := n5_; have BK252 := n6_; have HR253_1 := n7_; have HB := n8_; have BK254 := n9_; have GW254 := n10_; have GE254 := n11_; have NB236_254 := n12_; have NB254_236 := n13_; have NB237_254 := n14_; have NB254_237 := n15_; have NB252_254 := n16_; have NB254_252 := n17_; clear n0_ n1_ n2_ n3_ n4_ n5_ n6_ n7_ n8_ n9_ n10_ n11_ n12_ n13_ n14_ n15_ n16_ n17_; clear hb hbox hg; have hnb26 := NB254_236.out; have hnc26 := NB236_254.out; have hnb27 := NB254_237.out; have hnc27 := NB237_254.out; have hnb28 := NB254_252.out; have hnc28 := NB252_254.out; have hcz29_0 : w25.cell? ⟨gb254, 0, none⟩ = some (.int .i64 0) := (blk_cell BK254.out 0).trans rfl; have hcz29_1 : w25.cell? ⟨gb254, 1, none⟩ = some (.slice none 0 0) := (blk_cell BK254.out 1).trans rfl; have hfz29_0 := blk_frozen BK254.out 0; have hfz29_1 := blk_frozen BK254.out 1))
          go_roundg k1
          case measure => have := HK1.out; omega
          case rel => exact ⟨((rd_T43 t241 x29_1).f1), (([] : List (List Int))), (true), (wrap64 (x29_1 + 1)), (by first | rfl | (simp; done) | (simp [*]; done)), (by first | rfl | (simp; done) | (simp [*]; done)), H', ⟨by have := HK1.out; omega⟩, ⟨by (with_reducible repeat (first | apply Kd.V_alloc | apply Kd.V_drewN | apply Kd.V_drew)); exact Kd.V_mono (Kd.V_far (p := ⟨gb254, 1, none⟩) (Kd.V_far (p := ⟨gb254, 0, none⟩) (Kd.V_mono HL253_1.out (fun k_ hk => (⟨hk, hk.2⟩ : _ ∧ k_ ≠ gb254))) (fun _ hk => hk.2) (.int .i64 ((rd_T43 t241 x29_1).f0))) (fun _ hk => hk.2) (.slice A253_1 ((rd_T43 t241 x29_1).f1).length c253_1)) (fun _ hk => ⟨hk.1.1.1.1, ⟨(by simp [Value.ownBlock]), ⟨hk.1.1.2, ⟨hk.1.1.1.2.2.1, ⟨hk.1.1.1.2.2.2.1, ⟨hk.1.1.1.2.2.2.2.1, hk.1.1.1.2.2.2.2.2⟩⟩⟩⟩⟩⟩)⟩, ⟨by first | exact Kd.S_nil _ _ _ _ _ | exact Kd.N_nil _ _ _ _ _ | exact Kd.V_nil _ _ _ _ _ | exact Kd.Q_nil _ _ _ _ _ | exact Kd.R_nil _ _ _ _ _⟩, ⟨by (with_reducible repeat (first | apply Kd.N_alloc | apply Kd.N_drewN | apply Kd.N_drew)); exact Kd.N_mono (Kd.N_far (p := ⟨gb254, 1, none⟩) (Kd.N_far (p := ⟨gb254, 0, none⟩) (Kd.N_mono HO_27.out (fun k_ hk => (⟨hk, hk.2⟩ : _ ∧ k_ ≠ gb254))) (fun _ hk => hk.2) (.int .i64 ((rd_T43 t241 x29_1).f0))) (fun _ hk => hk.2) (.slice A253_1 ((rd_T43 t241 x29_1).f1).length c253_1)) (fun _ hk => ⟨hk.1.1.1, ⟨(by simp [Value.ownBlock]), ⟨hk.1.1.2.2.1, ⟨hk.1.1.2.2.2.1, ⟨hk.1.1.2.2.2.2.1, hk.1.1.2.2.2.2.2⟩⟩⟩⟩⟩)⟩, ⟨by (with_reducible repeat (first | apply Kd.V_alloc | apply Kd.V_drewN | apply Kd.V_drew)); exact Kd.V_mono (Kd.V_far (p := ⟨gb254, 1, none⟩) (Kd.V_far (p := ⟨gb254, 0, none⟩) (Kd.V_mono HO_253000.out (fun k_ hk => (⟨hk, hk.2⟩ : _ ∧ k_ ≠ gb254))) (fun _ hk => hk.2) (.int .i64 ((rd_T43 t241 x29_1).f0))) (fun _ hk => hk.2) (.slice A253_1 ((rd_T43 t241 x29_1).f1).length c253_1)) (fun _ hk => ⟨hk.1.1.1, ⟨(by simp [Value.ownBlock]), ⟨hk.1.1.2.2.1, ⟨hk.1.1.2.2.2.1, ⟨hk.1.1.2.2.2.2.1, ⟨hk.1.1.2.2.2.2.2.1, hk.1.1.2.2.2.2.2.2⟩⟩⟩⟩⟩⟩)⟩, ⟨by (with_reducible repeat (first | apply Kd.R_alloc | apply Kd.R_drewN | apply Kd.R_drew)); exact Kd.R_mono (Kd.R_far (p := ⟨gb254, 1, none⟩) (Kd.R_far (p := ⟨gb254, 0, none⟩) (Kd.R_types HO_253001.out BK254.out (by decide)) (fun _ hk => hk.2) (.int .i64 ((rd_T43 t241 x29_1).f0))) (fun _ hk => hk.2) (.slice A253_1 ((rd_T43 t241 x29_1).f1).length c253_1)) (fun _ hk => hk.1)⟩, ⟨by (with_reducible repeat (first | refine blk_drewN ?_ _ | refine blk_drew ?_ | refine blk_alloc ?_ _)); refine blk_far ?_ NB236_254.out _; (with_reducible repeat (first | refine blk_drewN ?_ _ | refine blk_drew ?_ | refine blk_alloc ?_ _)); refine blk_far ?_ NB236_254.out _; (with_reducible repeat (first | refine blk_drewN ?_ _ | refine blk_drew ?_ | refine blk_alloc ?_ _)); exact BK236.out⟩, ⟨by (with_reducible repeat (first | refine blk_drewN ?_ _ | refine blk_drew ?_ | refine blk_alloc ?_ _)); refine blk_far ?_ NB237_254.out _; (with_reducible repeat (first | refine blk_drewN ?_ _ | refine blk_drew ?_ | refine blk_alloc ?_ _)); refine blk_far ?_ NB237_254.out _; (with_reducible repeat (first | refine blk_drewN ?_ _ | refine blk_drew ?_ | refine blk_alloc ?_ _)); exact BK237.out⟩, ⟨by (with_reducible repeat (first | refine blk_drewN ?_ _ | refine blk_drew ?_ | refine blk_alloc ?_ _)); refine blk_far ?_ NB252_254.out _; (with_reducible repeat (first | refine blk_drewN ?_ _ | refine blk_drew ?_ | refine blk_alloc ?_ _)); refine blk_far ?_ NB252_254.out _; (with_reducible repeat (first | refine blk_drewN ?_ _ | refine blk_drew ?_ | refine blk_alloc ?_ _)); exact BK252.out⟩, ⟨by repeat (first | (with_reducible first | exact HB.out | apply below_alloc | apply pw_below_drewN | apply below_drew1 | refine below_set ?_ GE236.out | refine below_set ?_ GE237.out | refine below_set ?_ GE252.out | refine below_set ?_ GE254.out) | exact HB.out)⟩⟩
        · rw [if_neg c24] at H
          have c24b0 : (((rd_T43 t241 x29_1).f0) == 2) = false := beq_eq_false_iff_ne.mpr c24
          have c24b1 : (((rd_T43 t241 x29_1).f0) != 2) = true := bne_iff_ne.mpr c24
          have c30 : x11_1.length < 5864062014805 := by
            refine Classical.byContradiction fun c30 => ?_
            rw [if_neg c30] at H
            exact absurd H (by simp)
          rw [if_pos c30] at H
          have LMc30 := Aside0.mk c30
          clear c30
          obtain ⟨y255, hy255⟩ : ∃ y_ : List (List Int), y_ = (x11_1 ++ [(rd_T43 t241 x29_1).f1]) := ⟨_, rfl⟩
          replace H : (journal_Open.l0 k1 x10_1 y255 x12_1 t241 (t241.length : Int) (wrap64 (x29_1 + 1)) t245 t248) = some (r1, r2, r3, r4, r5) := by first | (rw [hy255]; with_reducible exact H) | (have H2_ := (Option.bind_some _ _).symm.trans H; rw [hy255]; with_reducible exact H2_) | (have H2_ := (Option.bind_some _ _).symm.trans H; with_reducible exact H2_) | with_reducible exact H | (rw [hy255]; exact H) | exact H
          have Ny255 := Aside0.mk hy255
          clear hy255
          have H' := Aside0.mk H
          clear H
          have p253 : 0 ≤ (x29_1 : Int) := of_decide_eq_true (by first | (with_reducible assumption) | assumption)
          have q253 : x29_1 < (t241.length : Int) := of_decide_eq_true (by first | (with_reducible assumption) | assumption)
          obtain ⟨ad253, A253_1, c253_1, e253, hx253_0, hx253_1, hl253_1, hi253_1⟩ := at_T43 (Kd.N_reads' HO_27.out).2.2 x29_1 p253 q253
          cases e253
          obtain ⟨ce253, hce253, hMe253, hcc253⟩ := Kd.N_get HO_27.out z43 x29_1 p253 (by first | exact q253 | exact of_decide_eq_true (by first | (with_reducible assumption) | assumption) | (have e_ := (Kd.N_reads' HO_27.out).1; omega))
          obtain ⟨ua253_1, uc253_1, rfl, ul253_1, ge253_1⟩ := k43_openF hMe253
          have hv253_1 := hcc253 1 _ rfl
          rw [add_field _ _ 1 (by omega)] at hv253_1
          replace hv253_1 := Option.some.inj (hv253_1.symm.trans hx253_1)
          injection hv253_1 with hva_ hvn_ hvc_
          rw [hva_] at ge253_1
          rw [hvc_] at ul253_1
          have HL253_1 := Aside0.mk (show Kd.V (Kd.int .u8) 5 _ w.heap.size _ _ ((rd_T43 t241 x29_1).f1) from Kd.V_mk ul253_1 ge253_1)
          clear hva_ hvn_ hvc_ ge253_1 ul253_1
          clear hcc253 hce253
          have HR253_1 := Aside0.mk hi253_1
          have HC253_1 := Aside0.mk hl253_1
          clear hi253_1 hl253_1
          replace p253 := eq_true p253
          replace q253 := eq_true q253
          go_wp2_with (first | ((with_reducible refine gate_dst (N := 14) rfl ?_); refine box_event ?hg (N := 14) ?hd (cs := #[.int .i64 0, .slice none 0 0]) (t := 43) ?hr ?_; (case hd => rfl); (case hg => rfl); (case hr => first | (go_simp; done) | (go_simp; rfl)); intro gb254 hg w31 hbox hb; have n0_ := Aside0.mk (Kd.V_below (Kd.V_elderB (by exact pV HO_10.out) gb254 (Nat.le_of_eq hg.symm)) hb); have n1_ := Aside0.mk (Kd.N_below (Kd.N_elderB (by exact pN HO_11.out) gb254 (Nat.le_of_eq hg.symm)) hb); have n2_ := Aside0.mk (Kd.N_below (Kd.N_elderB (by exact pN HO_27.out) gb254 (Nat.le_of_eq hg.symm)) hb); have n3_ := Aside0.mk (Kd.V_below (Kd.V_elderB (by exact pV HO_253000.out) gb254 (Nat.le_of_eq hg.symm)) hb); have n4_ := Aside0.mk (Kd.R_below (by exact pR HO_253001.out) hb); have n5_ := Aside0.mk (Kd.V_below (Kd.V_elderB (by exact pV HL253_1.out) gb254 (Nat.le_of_eq hg.symm)) hb); have n6_ := Aside0.mk (blk_below (g := gb236) (o := .cells #[.slice A0_0 l0_0.length c0_0, .slice A0_1 l0_1.length c0_1] 24 (0, 0)) (by exact pK BK236.out) hb); have n7_ := Aside0.mk (blk_below (g := gb237) (o := .cells #[.slice none 0 0, .slice none 0 0] 24 (0, 0)) (by exact pK BK237.out) hb); have n8_ := Aside0.mk (blk_below (g := gb252) (o := .cells #[.slice Ao15 t245.length co15, .slice Ao19 t248.length co19] 24 (0, 0)) (by exact pK BK252.out) hb); have n9_ := Aside0.mk (Kd.C_below (by exact pC HR253_1.out) hb); have n10_ := Aside0.mk (below_step (by exact pB HB.out) hb); have n11_ := Aside0.mk (hbox); have n12_ := Aside0.mk ((by rw [hg]; exact (below_size (by exact pB HB.out)) : w.heap.size ≤ gb254)); have n13_ := Aside0.mk ((by rw [hg]; exact (below_size (by exact pB HB.out)) : w.heap.size ≤ gb254)); have n14_ := Aside0.mk ((by rw [hg]; exact Nat.ne_of_lt (blk_lt (g := gb236) (o := .cells #[.slice A0_0 l0_0.length c0_0, .slice A0_1 l0_1.length c0_1] 24 (0, 0)) (by exact pK BK236.out)) : gb236 ≠ gb254)); have n15_ := Aside0.mk ((by rw [hg]; exact Nat.ne_of_gt (blk_lt (g := gb236) (o := .cells #[.slice A0_0 l0_0.length c0_0, .slice A0_1 l0_1.length c0_1] 24 (0, 0)) (by exact pK BK236.out)) : gb254 ≠ gb236)); have n16_ := Aside0.mk ((by rw [hg]; exact Nat.ne_of_lt (blk_lt (g := gb237) (o := .cells #[.slice none 0 0, .slice none 0 0] 24 (0, 0)) (by exact pK BK237.out)) : gb237 ≠ gb254)); have n17_ := Aside0.mk ((by rw [hg]; exact Nat.ne_of_gt (blk_lt (g := gb237) (o := .cells #[.slice none 0 0, .slice none 0 0] 24 (0, 0)) (by exact pK BK237.out)) : gb254 ≠ gb237)); have n18_ := Aside0.mk ((by rw [hg]; exact Nat.ne_of_lt (blk_lt (g := gb252) (o := .cells #[.slice Ao15 t245.length co15, .slice Ao19 t248.length co19] 24 (0, 0)) (by exact pK BK252.out)) : gb252 ≠ gb254)); have n19_ := Aside0.mk ((by rw [hg]; exact Nat.ne_of_gt (blk_lt (g := gb252) (o := .cells #[.slice Ao15 t245.length co15, .slice Ao19 t248.length co19] 24 (0, 0)) (by exact pK BK252.out)) : gb254 ≠ gb252)); clear HO_10; clear HO_11; clear HO_27; clear HO_253000; clear HO_253001; clear HL253_1; clear BK236; clear BK237; clear BK252; clear HR253_1; clear HB; have HO_10 := n0_; have HO_11 := n1_; have HO_27 := n2_; have HO_253000 := n3_; have HO_253001 := n4_; have HL253_1 := n5_; have BK236 := n6_; have BK237 := n7_; have BK252 := n8_; have HR253_1 := n9_; have HB := n10_; have BK254 := n11_; have GW254 := n12_; have GE254 := n13_; have NB236_254 := n14_; have NB254_236 := n15_; have NB237_254 := n16_; have NB254_237 := n17_; have NB252_254 := n18_; have NB254_252 := n19_; clear n0_ n1_ n2_ n3_ n4_ n5_ n6_ n7_ n8_ n9_ n10_ n11_ n12_ n13_ n14_ n15_ n16_ n17_ n18_ n19_; clear hb hbox hg; have hnb32 := NB254_236.out; have hnc32 := NB236_254.out; have hnb33 := NB254_237.out; have hnc33 := NB237_254.out; have hnb34 := NB254_252.out; have hnc34 := NB252_254.out; have hcz35_0 : w31.cell? ⟨gb254, 0, none⟩ = some (.int .i64 0) := (blk_cell BK254.out 0).trans rfl; have hcz35_1 : w31.cell? ⟨gb254, 1, none⟩ = some (.slice none 0 0) := (blk_cell BK254.out 1).trans rfl; have hfz35_0 := blk_frozen BK254.out 0; have hfz35_1 := blk_frozen BK254.out 1) | ((with_reducible refine gate_store (t := 43) (p := 14) rfl ?_); refine store_event (t := 43) (p := 14) (v := ?vo_w36) (w1 := ((w31.setCell ⟨gb254, 0, none⟩ (.int .i64 ((rd_T43 t241 x29_1).f0))).setCell ⟨gb254, 1, none⟩ (.slice A253_1 ((rd_T43 t241 x29_1).f1).length c253_1))) ?hg ?ho ?hn ?hr ?_; (case ho => rfl); (case hg => rfl); (case hn => rfl); (case hr => first | (go_simp; done) | (go_simp; rfl)); intro w36 hw; have n0_ : Aside0 (Kd.V (Kd.int .u8) 5 w36 w.heap.size (fun k_ => (w.heap.size ≤ k_) ∧ some k_ ≠ (u11 : Value).ownBlock ∧ some k_ ≠ (.slice (some ad253) t241.length co20 : Value).ownBlock ∧ some k_ ≠ (.slice Ao19 t248.length co19 : Value).ownBlock ∧ k_ ≠ gb236 ∧ k_ ≠ gb237 ∧ k_ ≠ gb252 ∧ k_ ≠ gb254) u10 x10_1) := ⟨(by rw [hw]; exact (by (with_reducible repeat (first | apply Kd.V_alloc | apply Kd.V_drewN | apply Kd.V_drew)); exact Kd.V_mono (Kd.V_far (p := ⟨gb254, 1, none⟩) (Kd.V_far (p := ⟨gb254, 0, none⟩) (Kd.V_mono HO_10.out (fun k_ hk => (⟨hk, hk.2⟩ : _ ∧ k_ ≠ gb254))) (fun _ hk => hk.2) (.int .i64 ((rd_T43 t241 x29_1).f0))) (fun _ hk => hk.2) (.slice A253_1 ((rd_T43 t241 x29_1).f1).length c253_1)) (fun _ hk => ⟨hk.1.1.1, ⟨hk.1.1.2.1, ⟨hk.1.1.2.2.1, ⟨hk.1.1.2.2.2.1, ⟨hk.1.1.2.2.2.2.1, ⟨hk.1.1.2.2.2.2.2.1, ⟨hk.1.1.2.2.2.2.2.2, hk.1.2⟩⟩⟩⟩⟩⟩⟩)))⟩; have n1_ : Aside0 (Kd.N (Kd.slice 5 (Kd.int .u8)) 22 w36 w.heap.size (fun k_ => (w.heap.size ≤ k_) ∧ some k_ ≠ (.slice (some ad253) t241.length co20 : Value).ownBlock ∧ some k_ ≠ (.slice Ao19 t248.length co19 : Value).ownBlock ∧ k_ ≠ gb236 ∧ k_ ≠ gb237 ∧ k_ ≠ gb252 ∧ k_ ≠ gb254) u11 x11_1) := ⟨(by rw [hw]; exact (by (with_reducible repeat (first | apply Kd.N_alloc | apply Kd.N_drewN | apply Kd.N_drew)); exact Kd.N_mono (Kd.N_far (p := ⟨gb254, 1, none⟩) (Kd.N_far (p := ⟨gb254, 0, none⟩) (Kd.N_mono HO_11.out (fun k_ hk => (⟨hk, hk.2⟩ : _ ∧ k_ ≠ gb254))) (fun _ hk => hk.2) (.int .i64 ((rd_T43 t241 x29_1).f0))) (fun _ hk => hk.2) (.slice A253_1 ((rd_T43 t241 x29_1).f1).length c253_1)) (fun _ hk => ⟨hk.1.1.1, ⟨hk.1.1.2.1, ⟨hk.1.1.2.2.1, ⟨hk.1.1.2.2.2.1, ⟨hk.1.1.2.2.2.2.1, ⟨hk.1.1.2.2.2.2.2, hk.1.2⟩⟩⟩⟩⟩⟩)))⟩; have n2_ : Aside0 (Kd.N k43 43 w36 w.heap.size (fun k_ => (w.heap.size ≤ k_) ∧ some k_ ≠ (u11 : Value).ownBlock ∧ some k_ ≠ (.slice Ao19 t248.length co19 : Value).ownBlock ∧ k_ ≠ gb236 ∧ k_ ≠ gb237 ∧ k_ ≠ gb252 ∧ k_ ≠ gb254) (.slice (some ad253) t241.length co20) t241) := ⟨(by rw [hw]; exact (by (with_reducible repeat (first | apply Kd.N_alloc | apply Kd.N_drewN | apply Kd.N_drew)); exact Kd.N_mono (Kd.N_far (p := ⟨gb254, 1, none⟩) (Kd.N_far (p := ⟨gb254, 0, none⟩) (Kd.N_mono HO_27.out (fun k_ hk => (⟨hk, hk.2⟩ : _ ∧ k_ ≠ gb254))) (fun _ hk => hk.2) (.int .i64 ((rd_T43 t241 x29_1).f0))) (fun _ hk => hk.2) (.slice A253_1 ((rd_T43 t241 x29_1).f1).length c253_1)) (fun _ hk => ⟨hk.1.1.1, ⟨hk.1.1.2.1, ⟨hk.1.1.2.2.1, ⟨hk.1.1.2.2.2.1, ⟨hk.1.1.2.2.2.2.1, ⟨hk.1.1.2.2.2.2.2, hk.1.2⟩⟩⟩⟩⟩⟩)))⟩; have n3_ : Aside0 (Kd.V (Kd.int .u8) 5 w36 w.heap.size (fun k_ => (w.heap.size ≤ k_) ∧ some k_ ≠ (u11 : Value).ownBlock ∧ some k_ ≠ (.slice (some ad253) t241.length co20 : Value).ownBlock ∧ some k_ ≠ (.slice Ao19 t248.length co19 : Value).ownBlock ∧ k_ ≠ gb236 ∧ k_ ≠ gb237 ∧ k_ ≠ gb252 ∧ k_ ≠ gb254) (.slice Ao15 t245.length co15) t245) := ⟨(by rw [hw]; exact (by (with_reducible repeat (first | apply Kd.V_alloc | apply Kd.V_drewN | apply Kd.V_drew)); exact Kd.V_mono (Kd.V_far (p := ⟨gb254, 1, none⟩) (Kd.V_far (p := ⟨gb254, 0, none⟩) (Kd.V_mono HO_253000.out (fun k_ hk => (⟨hk, hk.2⟩ : _ ∧ k_ ≠ gb254))) (fun _ hk => hk.2) (.int .i64 ((rd_T43 t241 x29_1).f0))) (fun _ hk => hk.2) (.slice A253_1 ((rd_T43 t241 x29_1).f1).length c253_1)) (fun _ hk => ⟨hk.1.1.1, ⟨hk.1.1.2.1, ⟨hk.1.1.2.2.1, ⟨hk.1.1.2.2.2.1, ⟨hk.1.1.2.2.2.2.1, ⟨hk.1.1.2.2.2.2.2.1, ⟨hk.1.1.2.2.2.2.2.2, hk.1.2⟩⟩⟩⟩⟩⟩⟩)))⟩; have n4_ : Aside0 (Kd.R (Kd.int .u8) 5 w36 w.heap.size (fun k_ => (w.heap.size ≤ k_)) (.slice Ao19 t248.length co19) t248) := ⟨(by rw [hw]; exact (by (with_reducible repeat (first | apply Kd.R_alloc | apply Kd.R_drewN | apply Kd.R_drew)); exact Kd.R_mono (Kd.R_far (p := ⟨gb254, 1, none⟩) (Kd.R_far (p := ⟨gb254, 0, none⟩) (Kd.R_types HO_253001.out BK254.out (by decide)) (fun _ hk => hk.2) (.int .i64 ((rd_T43 t241 x29_1).f0))) (fun _ hk => hk.2) (.slice A253_1 ((rd_T43 t241 x29_1).f1).length c253_1)) (fun _ hk => hk.1)))⟩; have n5_ : Aside0 (Kd.V (Kd.int .u8) 5 w36 w.heap.size (fun k_ => (w.heap.size ≤ k_) ∧ some k_ ≠ (u11 : Value).ownBlock ∧ some k_ ≠ (.slice (some ad253) t241.length co20 : Value).ownBlock ∧ some k_ ≠ (.slice Ao19 t248.length co19 : Value).ownBlock ∧ k_ ≠ gb236 ∧ k_ ≠ gb237 ∧ k_ ≠ gb252 ∧ k_ ≠ gb254) (.slice A253_1 ((rd_T43 t241 x29_1).f1).length c253_1) ((rd_T43 t241 x29_1).f1)) := ⟨(by rw [hw]; exact (by (with_reducible repeat (first | apply Kd.V_alloc | apply Kd.V_drewN | apply Kd.V_drew)); exact Kd.V_mono (Kd.V_far (p := ⟨gb254, 1, none⟩) (Kd.V_far (p := ⟨gb254, 0, none⟩) (Kd.V_mono HL253_1.out (fun k_ hk => (⟨hk, hk.2⟩ : _ ∧ k_ ≠ gb254))) (fun _ hk => hk.2) (.int .i64 ((rd_T43 t241 x29_1).f0))) (fun _ hk => hk.2) (.slice A253_1 ((rd_T43 t241 x29_1).f1).length c253_1)) (fun _ hk => ⟨hk.1.1.1.1, ⟨hk.1.1.1.2.1, ⟨hk.1.1.2, ⟨hk.1.1.1.2.2.1, ⟨hk.1.1.1.2.2.2.1, ⟨hk.1.1.1.2.2.2.2.1, ⟨hk.1.1.1.2.2.2.2.2, hk.1.2⟩⟩⟩⟩⟩⟩⟩)))⟩; have n6_ : Aside0 (w36.heap[gb236]? = some (.cells #[.slice A0_0 l0_0.length c0_0, .slice A0_1 l0_1.length c0_1] 24 (0, 0))) := ⟨(by rw [hw]; exact (by (with_reducible repeat (first | refine blk_drewN ?_ _ | refine blk_drew ?_ | refine blk_alloc ?_ _)); refine blk_far ?_ NB236_254.out _; (with_reducible repeat (first | refine blk_drewN ?_ _ | refine blk_drew ?_ | refine blk_alloc ?_ _)); refine blk_far ?_ NB236_254.out _; (with_reducible repeat (first | refine blk_drewN ?_ _ | refine blk_drew ?_ | refine blk_alloc ?_ _)); exact BK236.out))⟩; have n7_ : Aside0 (w36.heap[gb237]? = some (.cells #[.slice none 0 0, .slice none 0 0] 24 (0, 0))) := ⟨(by rw [hw]; exact (by (with_reducible repeat (first | refine blk_drewN ?_ _ | refine blk_drew ?_ | refine blk_alloc ?_ _)); refine blk_far ?_ NB237_254.out _; (with_reducible repeat (first | refine blk_drewN ?_ _ | refine blk_drew ?_ | refine blk_alloc ?_ _)); refine blk_far ?_ NB237_254.out _; (with_reducible repeat (first | refine blk_drewN ?_ _ | refine blk_drew ?_ | refine blk_alloc ?_ _)); exact BK237.out))⟩; have n8_ : Aside0 (w36.heap[gb252]? = some (.cells #[.slice Ao15 t245.length co15, .slice Ao19 t248.length co19] 24 (0, 0))) := ⟨(by rw [hw]; exact (by (with_reducible repeat (first | refine blk_drewN ?_ _ | refine blk_drew ?_ | refine blk_alloc ?_ _)); refine blk_far ?_ NB252_254.out _; (with_reducible repeat (first | refine blk_drewN ?_ _ | refine blk_drew ?_ | refine blk_alloc ?_ _)); refine blk_far ?_ NB252_254.out _; (with_reducible repeat (first | refine blk_drewN ?_ _ | refine blk_drew ?_ | refine blk_alloc ?_ _)); exact BK252.out))⟩; have n9_ : Aside0 (w36.heap[gb254]? = some (.cells #[.int .i64 ((rd_T43 t241 x29_1).f0), .slice A253_1 ((rd_T43 t241 x29_1).f1).length c253_1] 43 (0, 0))) := ⟨(by rw [hw]; exact (by (with_reducible repeat (first | refine blk_drewN ?_ _ | refine blk_drew ?_ | refine blk_alloc ?_ _)); refine blk_put (cs := #[.int .i64 ((rd_T43 t241 x29_1).f0), .slice none 0 0]) ?_ 1 _ rfl; (with_reducible repeat (first | refine blk_drewN ?_ _ | refine blk_drew ?_ | refine blk_alloc ?_ _)); refine blk_put (cs := #[.int .i64 0, .slice none 0 0]) ?_ 0 _ rfl; (with_reducible repeat (first | refine blk_drewN ?_ _ | refine blk_drew ?_ | refine blk_alloc ?_ _)); exact BK254.out))⟩; have n10_ : Aside0 (Below w.heap.size w w36) := ⟨(by rw [hw]; exact (by repeat (first | (with_reducible first | exact HB.out | apply below_alloc | apply pw_below_drewN | apply below_drew1 | refine below_set ?_ GE236.out | refine below_set ?_ GE237.out | refine below_set ?_ GE252.out | refine below_set ?_ GE254.out) | exact HB.out)))⟩; clear hw; clear HO_10; clear HO_11; clear HO_27; clear HO_253000; clear HO_253001; clear HL253_1; clear BK236; clear BK237; clear BK252; clear BK254; clear HB; have HO_10 := n0_; have HO_11 := n1_; have HO_27 := n2_; have HO_253000 := n3_; have HO_253001 := n4_; have HL253_1 := n5_; have BK236 := n6_; have BK237 := n7_; have BK252 := n8_; have BK254 := n9_; have HB := n10_; clear n0_ n1_ n2_ n3_ n4_ n5_ n6_ n7_ n8_ n9_ n10_; have hcz37_0 : w36.cell? ⟨gb254, 0, none⟩ = some (.int .i64 ((rd_T43 t241 x29_1).f0)) := (blk_cell BK254.out 0).trans rfl; have hcz37_1 : w36.cell? ⟨gb254, 1, none⟩ = some (.slice A253_1 ((rd_T43 t241 x29_1).f1).length c253_1) := (blk_cell BK254.out 1).trans rfl; have hfz37_0 := blk_frozen BK254.out 0; have hfz37_1 := blk_frozen BK254.out 1) | ((with_reducible refine gate_builtin (b := .append) (xs := #[.tmp 38, .tmp 41]) rfl ?_); at_builtin; refine Kd.N_append (Kd.slice 5 (Kd.int .u8)) (w0 := w) w.heap.size rfl (.tmp 38) (.tmp 41) 34 22 (.slice none 0 0) 24 rfl Try.underlying34 info22 rfl (by decide) (by omega) u11 x11_1 ((rd_T43 t241 x29_1).f1) [.slice A253_1 ((rd_T43 t241 x29_1).f1).length c253_1] (fun k_ => (w.heap.size ≤ k_) ∧ some k_ ≠ (.slice (some ad253) t241.length co20 : Value).ownBlock ∧ some k_ ≠ (.slice Ao19 t248.length co19 : Value).ownBlock ∧ k_ ≠ gb236 ∧ k_ ≠ gb237 ∧ k_ ≠ gb252 ∧ k_ ≠ gb254) (fun k_ => ((fun k_ => (w.heap.size ≤ k_) ∧ some k_ ≠ (.slice (some ad253) t241.length co20 : Value).ownBlock ∧ some k_ ≠ (.slice Ao19 t248.length co19 : Value).ownBlock ∧ k_ ≠ gb236 ∧ k_ ≠ gb237 ∧ k_ ≠ gb252 ∧ k_ ≠ gb254)) k_ ∧ some k_ ≠ (u11 : Value).ownBlock) rfl rfl ?aP (fun _ hk => hk) ?aF ?aO ?aB ?aS ?aL ?_; (case aP => exact (Kd.FK_slice_mk (Kd.V_reads' (Kd.V_mono (ok' := (fun k_ => ((fun k_ => (w.heap.size ≤ k_) ∧ some k_ ≠ (.slice (some ad253) t241.length co20 : Value).ownBlock ∧ some k_ ≠ (.slice Ao19 t248.length co19 : Value).ownBlock ∧ k_ ≠ gb236 ∧ k_ ≠ gb237 ∧ k_ ≠ gb252 ∧ k_ ≠ gb254)) k_ ∧ some k_ ≠ (u11 : Value).ownBlock)) (HL253_1.out) (fun k_ hk => ⟨⟨hk.1, ⟨hk.2.2.1, ⟨hk.2.2.2.1, ⟨hk.2.2.2.2.1, ⟨hk.2.2.2.2.2.1, ⟨hk.2.2.2.2.2.2.1, hk.2.2.2.2.2.2.2⟩⟩⟩⟩⟩⟩, hk.2.1⟩))).2.1 (Kd.V_F (Kd.V_mono (ok' := (fun k_ => ((fun k_ => (w.heap.size ≤ k_) ∧ some k_ ≠ (.slice (some ad253) t241.length co20 : Value).ownBlock ∧ some k_ ≠ (.slice Ao19 t248.length co19 : Value).ownBlock ∧ k_ ≠ gb236 ∧ k_ ≠ gb237 ∧ k_ ≠ gb252 ∧ k_ ≠ gb254)) k_ ∧ some k_ ≠ (u11 : Value).ownBlock)) (HL253_1.out) (fun k_ hk => ⟨⟨hk.1, ⟨hk.2.2.1, ⟨hk.2.2.2.1, ⟨hk.2.2.2.2.1, ⟨hk.2.2.2.2.2.1, ⟨hk.2.2.2.2.2.2.1, hk.2.2.2.2.2.2.2⟩⟩⟩⟩⟩⟩, hk.2.1⟩))))); (case aB => exact (by exact pB HB.out)); (case aF => exact (fun k_ hk => ⟨(Nat.le_trans (below_size (by exact pB HB.out)) hk), Kd.fresh' (Kd.N_lt (by exact pN HO_27.out)) k_ hk, Kd.fresh' (Kd.R_lt (by exact pR HO_253001.out)) k_ hk, Kd.freshB (g := gb236) (o := .cells #[.slice A0_0 l0_0.length c0_0, .slice A0_1 l0_1.length c0_1] 24 (0, 0)) (by exact pK BK236.out) k_ hk, Kd.freshB (g := gb237) (o := .cells #[.slice none 0 0, .slice none 0 0] 24 (0, 0)) (by exact pK BK237.out) k_ hk, Kd.freshB (g := gb252) (o := .cells #[.slice Ao15 t245.length co15, .slice Ao19 t248.length co19] 24 (0, 0)) (by exact pK BK252.out) k_ hk, Kd.freshB (g := gb254) (o := .cells #[.int .i64 ((rd_T43 t241 x29_1).f0), .slice A253_1 ((rd_T43 t241 x29_1).f1).length c253_1] 43 (0, 0)) (by exact pK BK254.out) k_ hk⟩)); (case aO => exact (by exact pN HO_11.out)); (case aS => exact (below_size (by exact pB HB.out))); (case aL => have := LMc30.out; omega); intro v256 w38 ho hb hg hat; rw [← Ny255.out] at ho; have n0_ := Aside0.mk (Kd.V_afterv (ok := (fun k_ => (w.heap.size ≤ k_) ∧ some k_ ≠ (.slice (some ad253) t241.length co20 : Value).ownBlock ∧ some k_ ≠ (.slice Ao19 t248.length co19 : Value).ownBlock ∧ k_ ≠ gb236 ∧ k_ ≠ gb237 ∧ k_ ≠ gb252 ∧ k_ ≠ gb254)) (by exact pV (Kd.V_mono HO_10.out (fun _ hk => ⟨⟨hk.1, ⟨hk.2.2.1, ⟨hk.2.2.2.1, ⟨hk.2.2.2.2.1, ⟨hk.2.2.2.2.2.1, ⟨hk.2.2.2.2.2.2.1, hk.2.2.2.2.2.2.2⟩⟩⟩⟩⟩⟩, hk.2.1⟩))) hg hat); have n1_ := Aside0.mk (Kd.N_afterv (ok := (fun k_ => (w.heap.size ≤ k_) ∧ some k_ ≠ (.slice Ao19 t248.length co19 : Value).ownBlock ∧ k_ ≠ gb236 ∧ k_ ≠ gb237 ∧ k_ ≠ gb252 ∧ k_ ≠ gb254)) (by exact pN (Kd.N_mono HO_27.out (fun _ hk => ⟨⟨hk.1, ⟨hk.2.2.1, ⟨hk.2.2.2.1, ⟨hk.2.2.2.2.1, ⟨hk.2.2.2.2.2.1, hk.2.2.2.2.2.2⟩⟩⟩⟩⟩, hk.2.1⟩))) hg hat); have n2_ := Aside0.mk (Kd.V_afterv (ok := (fun k_ => (w.heap.size ≤ k_) ∧ some k_ ≠ (.slice (some ad253) t241.length co20 : Value).ownBlock ∧ some k_ ≠ (.slice Ao19 t248.length co19 : Value).ownBlock ∧ k_ ≠ gb236 ∧ k_ ≠ gb237 ∧ k_ ≠ gb252 ∧ k_ ≠ gb254)) (by exact pV (Kd.V_mono HO_253000.out (fun _ hk => ⟨⟨hk.1, ⟨hk.2.2.1, ⟨hk.2.2.2.1, ⟨hk.2.2.2.2.1, ⟨hk.2.2.2.2.2.1, ⟨hk.2.2.2.2.2.2.1, hk.2.2.2.2.2.2.2⟩⟩⟩⟩⟩⟩, hk.2.1⟩))) hg hat); have n3_ := Aside0.mk (Kd.R_over' (by exact pR HO_253001.out) (Kd.N_typed (by exact pN HO_11.out)) (by decide) hg); have n4_ := Aside0.mk (blk_grown (g := gb236) (o := .cells #[.slice A0_0 l0_0.length c0_0, .slice A0_1 l0_1.length c0_1] 24 (0, 0)) (by exact pK BK236.out) hg (Kd.N_ne HO_11.out BK236.out (by decide))); have n5_ := Aside0.mk (blk_grown (g := gb237) (o := .cells #[.slice none 0 0, .slice none 0 0] 24 (0, 0)) (by exact pK BK237.out) hg (Kd.N_ne HO_11.out BK237.out (by decide))); have n6_ := Aside0.mk (blk_grown (g := gb252) (o := .cells #[.slice Ao15 t245.length co15, .slice Ao19 t248.length co19] 24 (0, 0)) (by exact pK BK252.out) hg (Kd.N_ne HO_11.out BK252.out (by decide))); have n7_ := Aside0.mk (Kd.V_afterv (ok := (fun k_ => (w.heap.size ≤ k_) ∧ some k_ ≠ (.slice (some ad253) t241.length co20 : Value).ownBlock ∧ some k_ ≠ (.slice Ao19 t248.length co19 : Value).ownBlock ∧ k_ ≠ gb236 ∧ k_ ≠ gb237 ∧ k_ ≠ gb252 ∧ k_ ≠ gb254)) (by exact pV (Kd.V_mono HL253_1.out (fun _ hk => ⟨⟨hk.1, ⟨hk.2.2.1, ⟨hk.2.2.2.1, ⟨hk.2.2.2.2.1, ⟨hk.2.2.2.2.2.1, ⟨hk.2.2.2.2.2.2.1, hk.2.2.2.2.2.2.2⟩⟩⟩⟩⟩⟩, hk.2.1⟩))) hg hat); have n8_ := Aside0.mk (blk_grown (g := gb254) (o := .cells #[.int .i64 ((rd_T43 t241 x29_1).f0), .slice A253_1 ((rd_T43 t241 x29_1).f1).length c253_1] 43 (0, 0)) (by exact pK BK254.out) hg (Kd.N_ne HO_11.out BK254.out (by decide))); have n9_ := Aside0.mk (hb); have n10_ := Aside0.mk (ho); clear HO_10; clear HO_27; clear HO_253000; clear HO_253001; clear BK236; clear BK237; clear BK252; clear HL253_1; clear BK254; clear HB; clear HO_11; have HO_10 := n0_; have HO_27 := n1_; have HO_253000 := n2_; have HO_253001 := n3_; have BK236 := n4_; have BK237 := n5_; have BK252 := n6_; have HL253_1 := n7_; have BK254 := n8_; have HB := n9_; have HO257 := n10_; clear n0_ n1_ n2_ n3_ n4_ n5_ n6_ n7_ n8_ n9_ n10_; clear ho hb hg hat))
          go_roundg k1
          case measure => have := HK1.out; omega
          case rel => exact ⟨(x10_1), (y255), (x12_1), (wrap64 (x29_1 + 1)), (by first | rfl | (simp; done) | (simp [*]; done)), (by first | rfl | (simp; done) | (simp [*]; done)), H', ⟨by have := HK1.out; omega⟩, ⟨by exact pV (Kd.V_mono HO_10.out (fun _ hk => ⟨hk.1.1, ⟨hk.2, ⟨hk.1.2.1, ⟨hk.1.2.2.1, ⟨hk.1.2.2.2.1, ⟨hk.1.2.2.2.2.1, hk.1.2.2.2.2.2.1⟩⟩⟩⟩⟩⟩))⟩, ⟨by exact pN (Kd.N_mono HO257.out (fun _ hk => ⟨hk.1, ⟨hk.2.1, ⟨hk.2.2.1, ⟨hk.2.2.2.1, ⟨hk.2.2.2.2.1, hk.2.2.2.2.2.1⟩⟩⟩⟩⟩))⟩, ⟨by exact pN (Kd.N_mono HO_27.out (fun _ hk => ⟨hk.1.1, ⟨hk.2, ⟨hk.1.2.1, ⟨hk.1.2.2.1, ⟨hk.1.2.2.2.1, hk.1.2.2.2.2.1⟩⟩⟩⟩⟩))⟩, ⟨by exact pV (Kd.V_mono HO_253000.out (fun _ hk => ⟨hk.1.1, ⟨hk.2, ⟨hk.1.2.1, ⟨hk.1.2.2.1, ⟨hk.1.2.2.2.1, ⟨hk.1.2.2.2.2.1, hk.1.2.2.2.2.2.1⟩⟩⟩⟩⟩⟩))⟩, ⟨by exact pR HO_253001.out⟩, ⟨by exact pK BK236.out⟩, ⟨by exact pK BK237.out⟩, ⟨by exact pK BK252.out⟩, ⟨by exact pB HB.out⟩⟩
      · rw [if_neg c21] at H
        have c21b0 : decide (x29_1 < (t241.length : Int)) = false := decide_eq_false c21
        clear c21
        simp only [Option.some.injEq, Prod.mk.injEq] at H
        obtain ⟨rfl, rfl, rfl, rfl, rfl⟩ := H
        have hnb39 := NB252_236.out
        have hnc39 := NB236_252.out
        have hnb40 := NB252_237.out
        have hnc40 := NB237_252.out
        have hcz41_0 : wr.cell? ⟨gb252, 0, none⟩ = some (.slice Ao15 t245.length co15) := (blk_cell BK252.out 0).trans rfl
        have hcz41_1 : wr.cell? ⟨gb252, 1, none⟩ = some (.slice Ao19 t248.length co19) := (blk_cell BK252.out 1).trans rfl
        have hfz41_0 := blk_frozen BK252.out 0
        have hfz41_1 := blk_frozen BK252.out 1
        have hnb42 := NB237_236.out
        have hnc42 := NB236_237.out
        have hcz43_0 : wr.cell? ⟨gb237, 0, none⟩ = some (.slice none 0 0) := (blk_cell BK237.out 0).trans rfl
        have hcz43_1 : wr.cell? ⟨gb237, 1, none⟩ = some (.slice none 0 0) := (blk_cell BK237.out 1).trans rfl
        have hfz43_0 := blk_frozen BK237.out 0
        have hfz43_1 := blk_frozen BK237.out 1
        go_wp2
        refine bodyPost_ret (results_list (rs := [.cell 2 24, .tmp 3, .tmp 4, .tmp 5]) rfl (by simp) (.cell gb237 24 #[.slice Ao15 t245.length co15, .slice Ao19 t248.length co19] (0, 0) _ rfl (by (with_reducible repeat (first | refine blk_drewN ?_ _ | refine blk_drew ?_ | refine blk_alloc ?_ _)); refine blk_put (cs := #[.slice Ao15 t245.length co15, .slice none 0 0]) ?_ 1 _ rfl; (with_reducible repeat (first | refine blk_drewN ?_ _ | refine blk_drew ?_ | refine blk_alloc ?_ _)); refine blk_put (cs := #[.slice none 0 0, .slice none 0 0]) ?_ 0 _ rfl; (with_reducible repeat (first | refine blk_drewN ?_ _ | refine blk_drew ?_ | refine blk_alloc ?_ _)); exact BK237.out) Try.underlying24 rfl (by kernel_rfl) (.tmp (.tmp (.tmp .nil))))) rfl ?_
        exact ⟨_, _, _, _, by first | rfl | (simp [errW_none, errW_some] <;> rfl) | (simp [*, errW_none, errW_some] <;> rfl), by (with_reducible repeat (first | apply Kd.V_alloc | apply Kd.V_drewN | apply Kd.V_drew)); exact Kd.V_mono (Kd.V_far (p := ⟨gb237, 1, none⟩) (Kd.V_far (p := ⟨gb237, 0, none⟩) (Kd.V_mono HO_253000.out (fun k_ hk => (⟨hk, hk.2.2.2.2.2.1⟩ : _ ∧ k_ ≠ gb237))) (fun _ hk => hk.2) (.slice Ao15 t245.length co15)) (fun _ hk => hk.2) (.slice Ao19 t248.length co19)) (fun _ hk => ⟨hk.1.1, ⟨hk.1.2.2.2.1, hk.1.2.1⟩⟩), by (with_reducible repeat (first | apply Kd.R_alloc | apply Kd.R_drewN | apply Kd.R_drew)); exact Kd.R_mono (Kd.R_far (p := ⟨gb237, 1, none⟩) (Kd.R_far (p := ⟨gb237, 0, none⟩) (Kd.R_types HO_253001.out BK237.out (by decide)) (fun _ hk => hk.2) (.slice Ao15 t245.length co15)) (fun _ hk => hk.2) (.slice Ao19 t248.length co19)) (fun _ hk => hk.1), by (with_reducible repeat (first | apply Kd.V_alloc | apply Kd.V_drewN | apply Kd.V_drew)); exact Kd.V_mono (Kd.V_far (p := ⟨gb237, 1, none⟩) (Kd.V_far (p := ⟨gb237, 0, none⟩) (Kd.V_mono HO_10.out (fun k_ hk => (⟨hk, hk.2.2.2.2.2.1⟩ : _ ∧ k_ ≠ gb237))) (fun _ hk => hk.2) (.slice Ao15 t245.length co15)) (fun _ hk => hk.2) (.slice Ao19 t248.length co19)) (fun _ hk => ⟨hk.1.1, ⟨hk.1.2.2.2.1, hk.1.2.1⟩⟩), by (with_reducible repeat (first | apply Kd.N_alloc | apply Kd.N_drewN | apply Kd.N_drew)); exact Kd.N_mono (Kd.N_far (p := ⟨gb237, 1, none⟩) (Kd.N_far (p := ⟨gb237, 0, none⟩) (Kd.N_mono HO_11.out (fun k_ hk => (⟨hk, hk.2.2.2.2.1⟩ : _ ∧ k_ ≠ gb237))) (fun _ hk => hk.2) (.slice Ao15 t245.length co15)) (fun _ hk => hk.2) (.slice Ao19 t248.length co19)) (fun _ hk => ⟨hk.1.1, hk.1.2.2.1⟩), by repeat (first | (with_reducible first | exact HB.out | apply below_alloc | apply pw_below_drewN | apply below_drew1 | refine below_set ?_ GE236.out | refine below_set ?_ GE237.out | refine below_set ?_ GE252.out) | exact HB.out)⟩

/-! ### customslaw34_awake: function 32 -/
def customslaw34_awake.f (k : Nat)  : Option (Bool) := (journal_Encode.f k 1 (([65] : List Int))).bind fun bt261 => ((journal_Append.f k ([] : List Int) ([] : List Int) (([65] : List Int))).bind fun bt268 => ((journal_Open.f k bt268.1 bt268.2.1).bind fun bt276 => (if bt261.2 = 0 then (if (strOfNums bt261.1).toList = ([0, 1, 255, 254, 1, 65, 7, 68, 2, 65] : List UInt8) then (if bt268.2.2 = 0 then (if bt276.2.2.2.1 = true then (some false) else (if (bt276.2.2.2.2.length : Int) = 1 then (if 0 < (bt276.2.2.2.2.length : Int) then (some ((strOfNums (rd_L1 bt276.2.2.2.2 0)).toList == ([65] : List UInt8))) else (none)) else (some false))) else (some false)) else (some false)) else (some false))))
theorem customslaw34_awake.mono : ∀ k, LeO (customslaw34_awake.f k ) (customslaw34_awake.f (k + 1) ) := by
  intro  k
  unfold customslaw34_awake.f
  repeat' first
      | (with_reducible exact journal_Append.mono _ _ _ _)
      | (with_reducible exact journal_Encode.mono _ _ _)
      | (with_reducible exact journal_Open.mono _ _ _)
      | (with_reducible exact LeO.refl _)
      | (with_reducible exact LeO.none _)
      | (with_reducible refine LeO.ite ?_ ?_)
      | (with_reducible refine LeO.bind ?_ (fun _ => ?_))
      | exact journal_Append.mono _ _ _ _
      | exact journal_Encode.mono _ _ _
      | exact journal_Open.mono _ _ _
      | exact LeO.none _
      | refine LeO.ite ?_ ?_
      | refine LeO.bind ?_ (fun _ => ?_)
set_option maxHeartbeats 8000000 in
set_option maxRecDepth 100000 in
theorem customslaw34_awake.calls1 (k : Nat)  (w : World) (h : customslaw34_awake.f k  = some true) :
    Calls Try.prog 32 #[] w fun e w' => e = .returned (.bool true) ∧ Below w.heap.size w w' := by
  have hu43 := Try.underlying43
  have hu24 := Try.underlying24
  have HB := Aside0.mk (Below.refl w.heap.size w)
  have H : ((journal_Encode.f k 1 (([65] : List Int))).bind fun bt261 => ((journal_Append.f k ([] : List Int) ([] : List Int) (([65] : List Int))).bind fun bt268 => ((journal_Open.f k bt268.1 bt268.2.1).bind fun bt276 => (if bt261.2 = 0 then (if (strOfNums bt261.1).toList = ([0, 1, 255, 254, 1, 65, 7, 68, 2, 65] : List UInt8) then (if bt268.2.2 = 0 then (if bt276.2.2.2.1 = true then (some false) else (if (bt276.2.2.2.2.length : Int) = 1 then (if 0 < (bt276.2.2.2.2.length : Int) then (some ((strOfNums (rd_L1 bt276.2.2.2.2 0)).toList == ([65] : List UInt8))) else (none)) else (some false))) else (some false)) else (some false)) else (some false))))) = some true := h
  clear h
  obtain ⟨y258, hy258⟩ : ∃ y_ : List Int, y_ = (([65] : List Int)) := ⟨_, rfl⟩
  replace H : ((journal_Encode.f k 1 y258).bind fun bt261 => ((journal_Append.f k ([] : List Int) ([] : List Int) (([65] : List Int))).bind fun bt268 => ((journal_Open.f k bt268.1 bt268.2.1).bind fun bt276 => (if bt261.2 = 0 then (if (strOfNums bt261.1).toList = ([0, 1, 255, 254, 1, 65, 7, 68, 2, 65] : List UInt8) then (if bt268.2.2 = 0 then (if bt276.2.2.2.1 = true then (some false) else (if (bt276.2.2.2.2.length : Int) = 1 then (if 0 < (bt276.2.2.2.2.length : Int) then (some ((strOfNums (rd_L1 bt276.2.2.2.2 0)).toList == ([65] : List UInt8))) else (none)) else (some false))) else (some false)) else (some false)) else (some false))))) = some true := by first | (rw [hy258]; with_reducible exact H) | (have H2_ := (Option.bind_some _ _).symm.trans H; rw [hy258]; with_reducible exact H2_) | (have H2_ := (Option.bind_some _ _).symm.trans H; with_reducible exact H2_) | with_reducible exact H | (rw [hy258]; exact H) | exact H
  have Ny258 := Aside0.mk hy258
  clear hy258
  replace H := Option.bind_eq_some_iff.mp H
  obtain ⟨⟨t261, t264⟩, A10, H⟩ := H
  replace H : ((journal_Append.f k ([] : List Int) ([] : List Int) (([65] : List Int))).bind fun bt268 => ((journal_Open.f k bt268.1 bt268.2.1).bind fun bt276 => (if t264 = 0 then (if (strOfNums t261).toList = ([0, 1, 255, 254, 1, 65, 7, 68, 2, 65] : List UInt8) then (if bt268.2.2 = 0 then (if bt276.2.2.2.1 = true then (some false) else (if (bt276.2.2.2.2.length : Int) = 1 then (if 0 < (bt276.2.2.2.2.length : Int) then (some ((strOfNums (rd_L1 bt276.2.2.2.2 0)).toList == ([65] : List UInt8))) else (none)) else (some false))) else (some false)) else (some false)) else (some false)))) = some true := H
  have A1 := Aside0.mk A10
  clear A10
  obtain ⟨y265, hy265⟩ : ∃ y_ : List Int, y_ = (([65] : List Int)) := ⟨_, rfl⟩
  replace H : ((journal_Append.f k ([] : List Int) ([] : List Int) y265).bind fun bt268 => ((journal_Open.f k bt268.1 bt268.2.1).bind fun bt276 => (if t264 = 0 then (if (strOfNums t261).toList = ([0, 1, 255, 254, 1, 65, 7, 68, 2, 65] : List UInt8) then (if bt268.2.2 = 0 then (if bt276.2.2.2.1 = true then (some false) else (if (bt276.2.2.2.2.length : Int) = 1 then (if 0 < (bt276.2.2.2.2.length : Int) then (some ((strOfNums (rd_L1 bt276.2.2.2.2 0)).toList == ([65] : List UInt8))) else (none)) else (some false))) else (some false)) else (some false)) else (some false)))) = some true := by first | (rw [hy265]; with_reducible exact H) | (have H2_ := (Option.bind_some _ _).symm.trans H; rw [hy265]; with_reducible exact H2_) | (have H2_ := (Option.bind_some _ _).symm.trans H; with_reducible exact H2_) | with_reducible exact H | (rw [hy265]; exact H) | exact H
  have Ny265 := Aside0.mk hy265
  clear hy265
  replace H := Option.bind_eq_some_iff.mp H
  obtain ⟨⟨t268, t271, t274⟩, A20, H⟩ := H
  replace H : ((journal_Open.f k t268 t271).bind fun bt276 => (if t264 = 0 then (if (strOfNums t261).toList = ([0, 1, 255, 254, 1, 65, 7, 68, 2, 65] : List UInt8) then (if t274 = 0 then (if bt276.2.2.2.1 = true then (some false) else (if (bt276.2.2.2.2.length : Int) = 1 then (if 0 < (bt276.2.2.2.2.length : Int) then (some ((strOfNums (rd_L1 bt276.2.2.2.2 0)).toList == ([65] : List UInt8))) else (none)) else (some false))) else (some false)) else (some false)) else (some false))) = some true := H
  have A2 := Aside0.mk A20
  clear A20
  replace H := Option.bind_eq_some_iff.mp H
  obtain ⟨⟨t276, t279, t282, t285, t286⟩, A30, H⟩ := H
  replace H : (if t264 = 0 then (if (strOfNums t261).toList = ([0, 1, 255, 254, 1, 65, 7, 68, 2, 65] : List UInt8) then (if t274 = 0 then (if t285 = true then (some false) else (if (t286.length : Int) = 1 then (if 0 < (t286.length : Int) then (some ((strOfNums (rd_L1 t286 0)).toList == ([65] : List UInt8))) else (none)) else (some false))) else (some false)) else (some false)) else (some false)) = some true := H
  have A3 := Aside0.mk A30
  clear A30
  have c4 : t264 = 0 := by
    refine Classical.byContradiction fun c4 => ?_
    rw [if_neg c4] at H
    exact absurd (Option.some.inj H) (by simp)
  rw [if_pos c4] at H
  have c4b0 : (t264 == 0) = true := beq_iff_eq.mpr c4
  have c4b1 : (t264 != 0) = false := bne_eq_false_iff_eq.mpr c4
  clear c4
  have c5 : (strOfNums t261).toList = ([0, 1, 255, 254, 1, 65, 7, 68, 2, 65] : List UInt8) := by
    refine Classical.byContradiction fun c5 => ?_
    rw [if_neg c5] at H
    exact absurd (Option.some.inj H) (by simp)
  rw [if_pos c5] at H
  have c5b0 : ((strOfNums t261).toList == ([0, 1, 255, 254, 1, 65, 7, 68, 2, 65] : List UInt8)) = true := beq_iff_eq.mpr c5
  have c5b1 : ((strOfNums t261).toList != ([0, 1, 255, 254, 1, 65, 7, 68, 2, 65] : List UInt8)) = false := bne_eq_false_iff_eq.mpr c5
  clear c5
  have c6 : t274 = 0 := by
    refine Classical.byContradiction fun c6 => ?_
    rw [if_neg c6] at H
    exact absurd (Option.some.inj H) (by simp)
  rw [if_pos c6] at H
  have c6b0 : (t274 == 0) = true := beq_iff_eq.mpr c6
  have c6b1 : (t274 != 0) = false := bne_eq_false_iff_eq.mpr c6
  clear c6
  have c7 : ¬ (t285 = true) := by
    intro c7
    rw [if_pos c7] at H
    exact absurd (Option.some.inj H) (by simp)
  replace c7 := Bool.eq_false_iff.mpr c7
  subst c7
  have H1 : (if (t286.length : Int) = 1 then (if 0 < (t286.length : Int) then (some ((strOfNums (rd_L1 t286 0)).toList == ([65] : List UInt8))) else (none)) else (some false)) = some true := by rw [if_neg (show ¬ (false = true) by decide)] at H; exact H
  clear H
  have H := H1
  clear H1
  have c8 : (t286.length : Int) = 1 := by
    refine Classical.byContradiction fun c8 => ?_
    rw [if_neg c8] at H
    exact absurd (Option.some.inj H) (by simp)
  rw [if_pos c8] at H
  have c8b0 : ((t286.length : Int) == 1) = true := beq_iff_eq.mpr c8
  have c8b1 : ((t286.length : Int) != 1) = false := bne_eq_false_iff_eq.mpr c8
  clear c8
  have c9 : 0 < (t286.length : Int) := by
    refine Classical.byContradiction fun c9 => ?_
    rw [if_neg c9] at H
    exact absurd H (by simp)
  rw [if_pos c9] at H
  have c9b0 : decide (0 < (t286.length : Int)) = true := decide_eq_true c9
  have c9b1 : decide (0 < t286.length) = true := decide_eq_true (by omega)
  clear c9
  have HTR := Aside0.mk (Option.some.inj H)
  clear H
  go_enter Try.func32, Try.ntmps32
  go_wp2_with (first | ((with_reducible refine gate_dst (N := 11) rfl ?_); (try (refine gate_guard (by rfl) ?_; dsimp only)); refine Go.Proofs.Ythnlepmfjhhgfaa.XWords.V_const _ 5 ?hg (N := 11) ?hd (xs := ([65] : List Int)) 22 (.tmp 10) ?hop Try.underlying22 Try.underlying5 (cs := #[.int .u8 65]) ?hcs (n := 1) ?hs ?hn (by simp) (Below.refl _ _) (Nat.le_refl _) ?_; (case hd => rfl); (case hg => rfl); (case hop => rfl); (case hcs => rfl); (case hs => rfl); (case hn => rfl); intro v259 w10 ho11 hb hg_ hnew_; clear hg_ hnew_; (first | rw [← Ny258.out] at ho11 | (simp only [Int.reduceToNat] at ho11; rw [← Ny258.out] at ho11)); have n0_ := Aside0.mk (Kd.V_lower (Kd.V_mono (ok' := fun k_ => True) ho11 (fun k_ hk_ => trivial)) (below_size (by exact pB HB.out))); have n1_ := Aside0.mk (below_step (by exact pB HB.out) hb); clear HB; have HO260 := n0_; have HB := n1_; clear n0_ n1_; clear hb ho11; obtain ⟨Ao12, co12, eo12⟩ := Kd.V_slice HO260.out; subst eo12) | ((with_reducible refine gate_callee (f := 28) rfl ?_); refine goesL_ (some 13) rfl rfl Try.func28 (by kernel_rfl) rfl #[.agg #[.int .i64 1, .slice Ao12 y258.length co12]] rfl (by (try simp only [List.map_toArray, List.map_cons, List.map_nil]); first | done | rfl | (simp only [List.length_drop, List.length_take]; rfl)) ?_; (with_reducible refine (journal_Encode.calls k 1 _ _ y258 t261 t264 _ ?side1 ?side2 A1.out).mono ?_); (case side1 => exact pC (Kd.V_reads' HO260.out).2.2); (case side2 => exact (Kd.V_reads' HO260.out).2.1); rintro e w13 ⟨v262, rfl, ho0, hb⟩; refine ⟨_, rfl, ?_⟩; have n0_ := Aside0.mk (Kd.V_elder' (by exact pV HO260.out) (Kd.R_base ho0) hb); have n1_ := Aside0.mk (Kd.R_lower ho0 (below_size (by exact pB HB.out))); have n2_ := Aside0.mk (below_step (by exact pB HB.out) hb); clear HO260; clear HB; have HO260 := n0_; have HO263 := n1_; have HB := n2_; clear n0_ n1_ n2_; (try clear hb); (try clear hb2); (try clear hk); (try clear hi); (try clear ho0)) | ((with_reducible refine gate_dst (N := 19) rfl ?_); (try (refine gate_guard (by rfl) ?_; dsimp only)); refine Go.Proofs.Ythnlepmfjhhgfaa.XWords.V_const _ 5 ?hg (N := 19) ?hd (xs := ([65] : List Int)) 22 (.tmp 18) ?hop Try.underlying22 Try.underlying5 (cs := #[.int .u8 65]) ?hcs (n := 1) ?hs ?hn (by simp) (Below.refl _ _) (Nat.le_refl _) ?_; (case hd => rfl); (case hg => rfl); (case hop => rfl); (case hcs => rfl); (case hs => rfl); (case hn => rfl); intro v266 w14 ho15 hb hg_ hnew_; clear hg_ hnew_; (first | rw [← Ny265.out] at ho15 | (simp only [Int.reduceToNat] at ho15; rw [← Ny265.out] at ho15)); have n0_ := Aside0.mk (Kd.R_below (by exact pR HO263.out) hb); have n1_ := Aside0.mk (Kd.V_lower (Kd.V_mono (ok' := fun k_ => some k_ ≠ (v262 : Value).ownBlock) ho15 (fun k_ hk_ => (Kd.fresh' (Kd.R_lt (by exact pR HO263.out)) k_ hk_))) (below_size (by exact pB HB.out))); have n2_ := Aside0.mk (below_step (by exact pB HB.out) hb); clear HO263; clear HB; have HO263 := n0_; have HO267 := n1_; have HB := n2_; clear n0_ n1_ n2_; clear hb ho15; obtain ⟨Ao16, co16, eo16⟩ := Kd.V_slice HO267.out; subst eo16) | ((with_reducible refine gate_callee (f := 36) rfl ?_); refine goesL_ (some 20) rfl rfl Try.func36 (by kernel_rfl) rfl #[.agg #[.slice none 0 0, .slice none 0 0], .slice Ao16 y265.length co16] rfl (by (try simp only [List.map_toArray, List.map_cons, List.map_nil]); first | done | rfl | (simp only [List.length_drop, List.length_take]; rfl)) ?_; (refine (journal_Append.calls k _ _ ([] : List Int) _ _ ([] : List Int) _ _ y265 t268 t271 t274 _ ?side1 ?side2 ?side3 ?side4 ?side5 ?side6 A2.out).mono ?_); (case side1 => exact Kd.C_nil _ _); (case side2 => exact Nat.le_refl _); (case side3 => exact Kd.C_nil _ _); (case side4 => exact Nat.le_refl _); (case side5 => exact pC (Kd.V_reads' HO267.out).2.2); (case side6 => exact (Kd.V_reads' HO267.out).2.1); rintro e w17 ⟨v269, v272, rfl, ho0, ho1, hb⟩; refine ⟨_, rfl, ?_⟩; have n0_ := Aside0.mk (Kd.R_mono (Kd.R_told (Kd.R_told (Kd.R_old (by exact pR HO263.out) hb) (Kd.R_base ho0)) (Kd.R_base ho1)) (fun _ h_ => h_.1)); have n1_ := Aside0.mk (Kd.V_mono (Kd.V_told (Kd.V_told (Kd.V_old (by exact pV HO267.out) hb) (Kd.R_base ho0)) (Kd.R_base ho1)) (fun _ h_ => h_.1)); have n2_ := Aside0.mk (Kd.R_lower (Kd.R_new' ho0 (Kd.R_lt (by exact pR HO263.out))) (below_size (by exact pB HB.out))); have n3_ := Aside0.mk (Kd.R_lower (Kd.R_new' ho1 (Kd.R_lt (by exact pR HO263.out))) (below_size (by exact pB HB.out))); have n4_ := Aside0.mk (below_step (by exact pB HB.out) hb); clear HO263; clear HO267; clear HB; have HO263 := n0_; have HO267 := n1_; have HO270 := n2_; have HO273 := n3_; have HB := n4_; clear n0_ n1_ n2_ n3_ n4_; (try clear hb); (try clear hb2); (try clear hk); (try clear hi); (try clear ho0); (try clear ho1)) | ((with_reducible refine gate_dst (N := 3) rfl ?_); (try (refine gate_guard (by rfl) ?_; dsimp only)); refine box_event ?hg (N := 3) ?hd (cs := #[.slice none 0 0, .slice none 0 0]) (t := 24) ?hr ?_; (case hd => rfl); (case hg => rfl); (case hr => first | (go_simp; done) | (go_simp; rfl)); intro gb275 hg w18 hbox hb; have n0_ := Aside0.mk (Kd.R_below (by exact pR HO263.out) hb); have n1_ := Aside0.mk (Kd.R_below (by exact pR HO270.out) hb); have n2_ := Aside0.mk (Kd.R_below (by exact pR HO273.out) hb); have n3_ := Aside0.mk (below_step (by exact pB HB.out) hb); have n4_ := Aside0.mk (hbox); have n5_ := Aside0.mk ((by rw [hg]; exact (below_size (by exact pB HB.out)) : w.heap.size ≤ gb275)); have n6_ := Aside0.mk ((by rw [hg]; exact (below_size (by exact pB HB.out)) : w.heap.size ≤ gb275)); clear HO263; clear HO270; clear HO273; clear HB; have HO263 := n0_; have HO270 := n1_; have HO273 := n2_; have HB := n3_; have BK275 := n4_; have GW275 := n5_; have GE275 := n6_; clear n0_ n1_ n2_ n3_ n4_ n5_ n6_; clear hb hbox hg; obtain ⟨Ao19, co19, eo19⟩ := Kd.R_slice HO270.out; subst eo19; have hcz20_0 : w18.cell? ⟨gb275, 0, none⟩ = some (.slice none 0 0) := (blk_cell BK275.out 0).trans rfl; have hcz20_1 : w18.cell? ⟨gb275, 1, none⟩ = some (.slice none 0 0) := (blk_cell BK275.out 1).trans rfl; have hfz20_0 := blk_frozen BK275.out 0; have hfz20_1 := blk_frozen BK275.out 1; obtain ⟨Ao21, co21, eo21⟩ := Kd.R_slice HO273.out; subst eo21) | ((with_reducible refine gate_callee (f := 38) rfl ?_); refine goesL_ (some 25) rfl rfl Try.func38 (by kernel_rfl) rfl #[.agg #[.slice Ao19 t268.length co19, .slice Ao21 t271.length co21]] rfl (by (try simp only [List.map_toArray, List.map_cons, List.map_nil]); first | done | rfl | (simp only [List.length_drop, List.length_take]; rfl)) ?_; (with_reducible refine (journal_Open.calls k _ _ t268 _ _ t271 t276 t279 t282 false t286 _ ?side1 ?side2 ?side3 ?side4 A3.out).mono ?_); (case side1 => refine (Kd.R_reads' (e := 5) (base := w.heap.size) (ok := fun k_ => (some k_ ≠ (.slice Ao21 t271.length co21 : Value).ownBlock ∧ some k_ ≠ (v262 : Value).ownBlock)) (n := t268.length) (c := co19) ?_).2.2; exact (by (with_reducible repeat (first | apply Kd.R_alloc | apply Kd.R_drewN | apply Kd.R_drew)); exact (Kd.R_mono (Kd.R_far (p := ⟨gb275, 1, none⟩) (Kd.R_far (p := ⟨gb275, 0, none⟩) (Kd.R_types HO270.out BK275.out (by decide)) (fun _ hk => hk.2) (.slice Ao19 t268.length co19)) (fun _ hk => hk.2) (.slice Ao21 t271.length co21)) (fun _ h_ => h_.1)))); (case side2 => exact (Kd.R_reads' HO270.out).2.1); (case side3 => refine (Kd.R_reads' (e := 5) (base := w.heap.size) (ok := fun k_ => (some k_ ≠ (.slice Ao19 t268.length co19 : Value).ownBlock ∧ some k_ ≠ (v262 : Value).ownBlock)) (n := t271.length) (c := co21) ?_).2.2; exact (by (with_reducible repeat (first | apply Kd.R_alloc | apply Kd.R_drewN | apply Kd.R_drew)); exact (Kd.R_mono (Kd.R_far (p := ⟨gb275, 1, none⟩) (Kd.R_far (p := ⟨gb275, 0, none⟩) (Kd.R_types HO273.out BK275.out (by decide)) (fun _ hk => hk.2) (.slice Ao19 t268.length co19)) (fun _ hk => hk.2) (.slice Ao21 t271.length co21)) (fun _ h_ => h_.1)))); (case side4 => exact (Kd.R_reads' HO273.out).2.1); rintro e w22 ⟨v277, v280, v283, v287, rfl, ho0, ho1, ho2, ho3, hb⟩; refine ⟨_, rfl, ?_⟩; have n0_ := Aside0.mk (Kd.R_elder' (by (with_reducible repeat (first | apply Kd.R_alloc | apply Kd.R_drewN | apply Kd.R_drew)); exact (Kd.R_mono (Kd.R_far (p := ⟨gb275, 1, none⟩) (Kd.R_far (p := ⟨gb275, 0, none⟩) (Kd.R_types HO263.out BK275.out (by decide)) (fun _ hk => hk.2) (.slice Ao19 t268.length co19)) (fun _ hk => hk.2) (.slice Ao21 t271.length co21)) (fun _ h_ => h_.1))) (Kd.R_base ho1) hb); have n1_ := Aside0.mk (Kd.R_elder' (by (with_reducible repeat (first | apply Kd.R_alloc | apply Kd.R_drewN | apply Kd.R_drew)); exact (Kd.R_mono (Kd.R_far (p := ⟨gb275, 1, none⟩) (Kd.R_far (p := ⟨gb275, 0, none⟩) (Kd.R_types HO270.out BK275.out (by decide)) (fun _ hk => hk.2) (.slice Ao19 t268.length co19)) (fun _ hk => hk.2) (.slice Ao21 t271.length co21)) (fun _ h_ => h_.1))) (Kd.R_base ho1) hb); have n2_ := Aside0.mk (Kd.R_elder' (by (with_reducible repeat (first | apply Kd.R_alloc | apply Kd.R_drewN | apply Kd.R_drew)); exact (Kd.R_mono (Kd.R_far (p := ⟨gb275, 1, none⟩) (Kd.R_far (p := ⟨gb275, 0, none⟩) (Kd.R_types HO273.out BK275.out (by decide)) (fun _ hk => hk.2) (.slice Ao19 t268.length co19)) (fun _ hk => hk.2) (.slice Ao21 t271.length co21)) (fun _ h_ => h_.1))) (Kd.R_base ho1) hb); have n3_ := Aside0.mk (Kd.V_lower (Kd.V_mono (ok' := fun k_ => some k_ ≠ (v280 : Value).ownBlock ∧ some k_ ≠ (v287 : Value).ownBlock ∧ some k_ ≠ (v262 : Value).ownBlock ∧ some k_ ≠ (.slice Ao19 t268.length co19 : Value).ownBlock ∧ some k_ ≠ (.slice Ao21 t271.length co21 : Value).ownBlock ∧ k_ ≠ gb275) ho0 (fun k_ hk_ => ⟨hk_.2.1, hk_.2.2, (Kd.fresh' (Kd.R_lt (by (with_reducible repeat (first | apply Kd.R_alloc | apply Kd.R_drewN | apply Kd.R_drew)); exact (Kd.R_mono (Kd.R_far (p := ⟨gb275, 1, none⟩) (Kd.R_far (p := ⟨gb275, 0, none⟩) (Kd.R_types HO263.out BK275.out (by decide)) (fun _ hk => hk.2) (.slice Ao19 t268.length co19)) (fun _ hk => hk.2) (.slice Ao21 t271.length co21)) (fun _ h_ => h_.1)))) k_ hk_.1), (Kd.fresh' (Kd.R_lt (by (with_reducible repeat (first | apply Kd.R_alloc | apply Kd.R_drewN | apply Kd.R_drew)); exact (Kd.R_mono (Kd.R_far (p := ⟨gb275, 1, none⟩) (Kd.R_far (p := ⟨gb275, 0, none⟩) (Kd.R_types HO270.out BK275.out (by decide)) (fun _ hk => hk.2) (.slice Ao19 t268.length co19)) (fun _ hk => hk.2) (.slice Ao21 t271.length co21)) (fun _ h_ => h_.1)))) k_ hk_.1), (Kd.fresh' (Kd.R_lt (by (with_reducible repeat (first | apply Kd.R_alloc | apply Kd.R_drewN | apply Kd.R_drew)); exact (Kd.R_mono (Kd.R_far (p := ⟨gb275, 1, none⟩) (Kd.R_far (p := ⟨gb275, 0, none⟩) (Kd.R_types HO273.out BK275.out (by decide)) (fun _ hk => hk.2) (.slice Ao19 t268.length co19)) (fun _ hk => hk.2) (.slice Ao21 t271.length co21)) (fun _ h_ => h_.1)))) k_ hk_.1), (Kd.freshB (g := gb275) (o := .cells #[.slice Ao19 t268.length co19, .slice Ao21 t271.length co21] 24 (0, 0)) (by (with_reducible repeat (first | refine blk_drewN ?_ _ | refine blk_drew ?_ | refine blk_alloc ?_ _)); refine blk_put (cs := #[.slice Ao19 t268.length co19, .slice none 0 0]) ?_ 1 _ rfl; (with_reducible repeat (first | refine blk_drewN ?_ _ | refine blk_drew ?_ | refine blk_alloc ?_ _)); refine blk_put (cs := #[.slice none 0 0, .slice none 0 0]) ?_ 0 _ rfl; (with_reducible repeat (first | refine blk_drewN ?_ _ | refine blk_drew ?_ | refine blk_alloc ?_ _)); exact BK275.out) k_ hk_.1)⟩)) (below_size (by repeat (first | (with_reducible first | exact HB.out | apply below_alloc | apply pw_below_drewN | apply below_drew1 | refine below_set ?_ GE275.out) | exact HB.out)))); have n4_ := Aside0.mk (Kd.R_lower (Kd.R_new' (Kd.R_new' (Kd.R_new' (Kd.R_mono (ok' := fun k_ => True) ho1 (fun _ hk_ => trivial)) (Kd.R_lt (by (with_reducible repeat (first | apply Kd.R_alloc | apply Kd.R_drewN | apply Kd.R_drew)); exact (Kd.R_mono (Kd.R_far (p := ⟨gb275, 1, none⟩) (Kd.R_far (p := ⟨gb275, 0, none⟩) (Kd.R_types HO263.out BK275.out (by decide)) (fun _ hk => hk.2) (.slice Ao19 t268.length co19)) (fun _ hk => hk.2) (.slice Ao21 t271.length co21)) (fun _ h_ => h_.1))))) (Kd.R_lt (by (with_reducible repeat (first | apply Kd.R_alloc | apply Kd.R_drewN | apply Kd.R_drew)); exact (Kd.R_mono (Kd.R_far (p := ⟨gb275, 1, none⟩) (Kd.R_far (p := ⟨gb275, 0, none⟩) (Kd.R_types HO270.out BK275.out (by decide)) (fun _ hk => hk.2) (.slice Ao19 t268.length co19)) (fun _ hk => hk.2) (.slice Ao21 t271.length co21)) (fun _ h_ => h_.1))))) (Kd.R_lt (by (with_reducible repeat (first | apply Kd.R_alloc | apply Kd.R_drewN | apply Kd.R_drew)); exact (Kd.R_mono (Kd.R_far (p := ⟨gb275, 1, none⟩) (Kd.R_far (p := ⟨gb275, 0, none⟩) (Kd.R_types HO273.out BK275.out (by decide)) (fun _ hk => hk.2) (.slice Ao19 t268.length co19)) (fun _ hk => hk.2) (.slice Ao21 t271.length co21)) (fun _ h_ => h_.1))))) (below_size (by repeat (first | (with_reducible first | exact HB.out | apply below_alloc | apply pw_below_drewN | apply below_drew1 | refine below_set ?_ GE275.out) | exact HB.out)))); have n5_ := Aside0.mk (Kd.V_lower (Kd.V_mono (ok' := fun k_ => some k_ ≠ (v280 : Value).ownBlock ∧ some k_ ≠ (v287 : Value).ownBlock ∧ some k_ ≠ (v262 : Value).ownBlock ∧ some k_ ≠ (.slice Ao19 t268.length co19 : Value).ownBlock ∧ some k_ ≠ (.slice Ao21 t271.length co21 : Value).ownBlock ∧ k_ ≠ gb275) ho2 (fun k_ hk_ => ⟨hk_.2.1, hk_.2.2, (Kd.fresh' (Kd.R_lt (by (with_reducible repeat (first | apply Kd.R_alloc | apply Kd.R_drewN | apply Kd.R_drew)); exact (Kd.R_mono (Kd.R_far (p := ⟨gb275, 1, none⟩) (Kd.R_far (p := ⟨gb275, 0, none⟩) (Kd.R_types HO263.out BK275.out (by decide)) (fun _ hk => hk.2) (.slice Ao19 t268.length co19)) (fun _ hk => hk.2) (.slice Ao21 t271.length co21)) (fun _ h_ => h_.1)))) k_ hk_.1), (Kd.fresh' (Kd.R_lt (by (with_reducible repeat (first | apply Kd.R_alloc | apply Kd.R_drewN | apply Kd.R_drew)); exact (Kd.R_mono (Kd.R_far (p := ⟨gb275, 1, none⟩) (Kd.R_far (p := ⟨gb275, 0, none⟩) (Kd.R_types HO270.out BK275.out (by decide)) (fun _ hk => hk.2) (.slice Ao19 t268.length co19)) (fun _ hk => hk.2) (.slice Ao21 t271.length co21)) (fun _ h_ => h_.1)))) k_ hk_.1), (Kd.fresh' (Kd.R_lt (by (with_reducible repeat (first | apply Kd.R_alloc | apply Kd.R_drewN | apply Kd.R_drew)); exact (Kd.R_mono (Kd.R_far (p := ⟨gb275, 1, none⟩) (Kd.R_far (p := ⟨gb275, 0, none⟩) (Kd.R_types HO273.out BK275.out (by decide)) (fun _ hk => hk.2) (.slice Ao19 t268.length co19)) (fun _ hk => hk.2) (.slice Ao21 t271.length co21)) (fun _ h_ => h_.1)))) k_ hk_.1), (Kd.freshB (g := gb275) (o := .cells #[.slice Ao19 t268.length co19, .slice Ao21 t271.length co21] 24 (0, 0)) (by (with_reducible repeat (first | refine blk_drewN ?_ _ | refine blk_drew ?_ | refine blk_alloc ?_ _)); refine blk_put (cs := #[.slice Ao19 t268.length co19, .slice none 0 0]) ?_ 1 _ rfl; (with_reducible repeat (first | refine blk_drewN ?_ _ | refine blk_drew ?_ | refine blk_alloc ?_ _)); refine blk_put (cs := #[.slice none 0 0, .slice none 0 0]) ?_ 0 _ rfl; (with_reducible repeat (first | refine blk_drewN ?_ _ | refine blk_drew ?_ | refine blk_alloc ?_ _)); exact BK275.out) k_ hk_.1)⟩)) (below_size (by repeat (first | (with_reducible first | exact HB.out | apply below_alloc | apply pw_below_drewN | apply below_drew1 | refine below_set ?_ GE275.out) | exact HB.out)))); have n6_ := Aside0.mk (Kd.N_lower (Kd.N_mono (ok' := fun k_ => some k_ ≠ (v280 : Value).ownBlock ∧ some k_ ≠ (v262 : Value).ownBlock ∧ some k_ ≠ (.slice Ao19 t268.length co19 : Value).ownBlock ∧ some k_ ≠ (.slice Ao21 t271.length co21 : Value).ownBlock ∧ k_ ≠ gb275) ho3 (fun k_ hk_ => ⟨hk_.2, (Kd.fresh' (Kd.R_lt (by (with_reducible repeat (first | apply Kd.R_alloc | apply Kd.R_drewN | apply Kd.R_drew)); exact (Kd.R_mono (Kd.R_far (p := ⟨gb275, 1, none⟩) (Kd.R_far (p := ⟨gb275, 0, none⟩) (Kd.R_types HO263.out BK275.out (by decide)) (fun _ hk => hk.2) (.slice Ao19 t268.length co19)) (fun _ hk => hk.2) (.slice Ao21 t271.length co21)) (fun _ h_ => h_.1)))) k_ hk_.1), (Kd.fresh' (Kd.R_lt (by (with_reducible repeat (first | apply Kd.R_alloc | apply Kd.R_drewN | apply Kd.R_drew)); exact (Kd.R_mono (Kd.R_far (p := ⟨gb275, 1, none⟩) (Kd.R_far (p := ⟨gb275, 0, none⟩) (Kd.R_types HO270.out BK275.out (by decide)) (fun _ hk => hk.2) (.slice Ao19 t268.length co19)) (fun _ hk => hk.2) (.slice Ao21 t271.length co21)) (fun _ h_ => h_.1)))) k_ hk_.1), (Kd.fresh' (Kd.R_lt (by (with_reducible repeat (first | apply Kd.R_alloc | apply Kd.R_drewN | apply Kd.R_drew)); exact (Kd.R_mono (Kd.R_far (p := ⟨gb275, 1, none⟩) (Kd.R_far (p := ⟨gb275, 0, none⟩) (Kd.R_types HO273.out BK275.out (by decide)) (fun _ hk => hk.2) (.slice Ao19 t268.length co19)) (fun _ hk => hk.2) (.slice Ao21 t271.length co21)) (fun _ h_ => h_.1)))) k_ hk_.1), (Kd.freshB (g := gb275) (o := .cells #[.slice Ao19 t268.length co19, .slice Ao21 t271.length co21] 24 (0, 0)) (by (with_reducible repeat (first | refine blk_drewN ?_ _ | refine blk_drew ?_ | refine blk_alloc ?_ _)); refine blk_put (cs := #[.slice Ao19 t268.length co19, .slice none 0 0]) ?_ 1 _ rfl; (with_reducible repeat (first | refine blk_drewN ?_ _ | refine blk_drew ?_ | refine blk_alloc ?_ _)); refine blk_put (cs := #[.slice none 0 0, .slice none 0 0]) ?_ 0 _ rfl; (with_reducible repeat (first | refine blk_drewN ?_ _ | refine blk_drew ?_ | refine blk_alloc ?_ _)); exact BK275.out) k_ hk_.1)⟩)) (below_size (by repeat (first | (with_reducible first | exact HB.out | apply below_alloc | apply pw_below_drewN | apply below_drew1 | refine below_set ?_ GE275.out) | exact HB.out)))); have n7_ := Aside0.mk (blk_below (g := gb275) (o := .cells #[.slice Ao19 t268.length co19, .slice Ao21 t271.length co21] 24 (0, 0)) (by (with_reducible repeat (first | refine blk_drewN ?_ _ | refine blk_drew ?_ | refine blk_alloc ?_ _)); refine blk_put (cs := #[.slice Ao19 t268.length co19, .slice none 0 0]) ?_ 1 _ rfl; (with_reducible repeat (first | refine blk_drewN ?_ _ | refine blk_drew ?_ | refine blk_alloc ?_ _)); refine blk_put (cs := #[.slice none 0 0, .slice none 0 0]) ?_ 0 _ rfl; (with_reducible repeat (first | refine blk_drewN ?_ _ | refine blk_drew ?_ | refine blk_alloc ?_ _)); exact BK275.out) hb); have n8_ := Aside0.mk (below_step (by repeat (first | (with_reducible first | exact HB.out | apply below_alloc | apply pw_below_drewN | apply below_drew1 | refine below_set ?_ GE275.out) | exact HB.out)) hb); clear HO263; clear HO270; clear HO273; clear BK275; clear HB; have HO263 := n0_; have HO270 := n1_; have HO273 := n2_; have HO278 := n3_; have HO281 := n4_; have HO284 := n5_; have HO288 := n6_; have BK275 := n7_; have HB := n8_; clear n0_ n1_ n2_ n3_ n4_ n5_ n6_ n7_ n8_; (try clear hb); (try clear hb2); (try clear hk); (try clear hi); (try clear ho0); (try clear ho1); (try clear ho2); (try clear ho3)) | ((with_reducible refine gate_dst (N := 5) rfl ?_); (try (refine gate_guard (by rfl) ?_; dsimp only)); refine box_event ?hg (N := 5) ?hd (cs := #[.slice none 0 0, .slice none 0 0]) (t := 24) ?hr ?_; (case hd => rfl); (case hg => rfl); (case hr => first | (go_simp; done) | (go_simp; rfl)); intro gb289 hg w23 hbox hb; have n0_ := Aside0.mk (Kd.R_below (by exact pR HO263.out) hb); have n1_ := Aside0.mk (Kd.V_below (Kd.V_elderB (by exact pV HO278.out) gb289 (Nat.le_of_eq hg.symm)) hb); have n2_ := Aside0.mk (Kd.R_below (by exact pR HO281.out) hb); have n3_ := Aside0.mk (Kd.N_below (Kd.N_elderB (by exact pN HO288.out) gb289 (Nat.le_of_eq hg.symm)) hb); have n4_ := Aside0.mk (below_step (by exact pB HB.out) hb); have n5_ := Aside0.mk (hbox); have n6_ := Aside0.mk ((by rw [hg]; exact (below_size (by exact pB HB.out)) : w.heap.size ≤ gb289)); have n7_ := Aside0.mk ((by rw [hg]; exact (below_size (by exact pB HB.out)) : w.heap.size ≤ gb289)); clear HO263; clear HO278; clear HO281; clear HO288; clear HB; have HO263 := n0_; have HO278 := n1_; have HO281 := n2_; have HO288 := n3_; have HB := n4_; have BK289 := n5_; have GW289 := n6_; have GE289 := n7_; clear n0_ n1_ n2_ n3_ n4_ n5_ n6_ n7_; clear hb hbox hg; obtain ⟨Ao24, co24, eo24⟩ := Kd.V_slice HO278.out; subst eo24; have hcz25_0 : w23.cell? ⟨gb289, 0, none⟩ = some (.slice none 0 0) := (blk_cell BK289.out 0).trans rfl; have hcz25_1 : w23.cell? ⟨gb289, 1, none⟩ = some (.slice none 0 0) := (blk_cell BK289.out 1).trans rfl; have hfz25_0 := blk_frozen BK289.out 0; have hfz25_1 := blk_frozen BK289.out 1; obtain ⟨Ao26, co26, eo26⟩ := Kd.R_slice HO281.out; subst eo26) | ((with_reducible refine gate_store (t := 24) (p := 5) rfl ?_); refine store_event (t := 24) (p := 5) (v := ?vo_w27) (w1 := ((w23.setCell ⟨gb289, 0, none⟩ (.slice Ao24 t276.length co24)).setCell ⟨gb289, 1, none⟩ (.slice Ao26 t279.length co26))) ?hg ?ho ?hn ?hr ?_; (case ho => rfl); (case hg => rfl); (case hn => rfl); (case hr => first | (go_simp; done) | (go_simp; rfl)); intro w27 hw; have n0_ : Aside0 (Kd.R (Kd.int .u8) 5 w27 w.heap.size (fun k_ => some k_ ≠ (.slice Ao26 t279.length co26 : Value).ownBlock) v262 t261) := ⟨(by rw [hw]; exact (by (with_reducible repeat (first | apply Kd.R_alloc | apply Kd.R_drewN | apply Kd.R_drew)); exact Kd.R_mono (Kd.R_far (p := ⟨gb289, 1, none⟩) (Kd.R_far (p := ⟨gb289, 0, none⟩) (Kd.R_types HO263.out BK289.out (by decide)) (fun _ hk => hk.2) (.slice Ao24 t276.length co24)) (fun _ hk => hk.2) (.slice Ao26 t279.length co26)) (fun _ hk => hk.1.2)))⟩; have n1_ : Aside0 (Kd.V (Kd.int .u8) 5 w27 w.heap.size (fun k_ => some k_ ≠ (v262 : Value).ownBlock ∧ some k_ ≠ (.slice Ao26 t279.length co26 : Value).ownBlock ∧ some k_ ≠ (v287 : Value).ownBlock ∧ k_ ≠ gb275 ∧ k_ ≠ gb289) (.slice Ao24 t276.length co24) t276) := ⟨(by rw [hw]; exact (by (with_reducible repeat (first | apply Kd.V_alloc | apply Kd.V_drewN | apply Kd.V_drew)); exact Kd.V_mono (Kd.V_far (p := ⟨gb289, 1, none⟩) (Kd.V_far (p := ⟨gb289, 0, none⟩) (Kd.V_mono HO278.out (fun k_ hk => (⟨hk, hk.2⟩ : _ ∧ k_ ≠ gb289))) (fun _ hk => hk.2) (.slice Ao24 t276.length co24)) (fun _ hk => hk.2) (.slice Ao26 t279.length co26)) (fun _ hk => ⟨hk.1.1.2.2.1, ⟨hk.1.1.1, ⟨hk.1.1.2.1, ⟨hk.1.1.2.2.2.2.2, hk.1.2⟩⟩⟩⟩)))⟩; have n2_ : Aside0 (Kd.R (Kd.int .u8) 5 w27 w.heap.size (fun k_ => some k_ ≠ (v262 : Value).ownBlock) (.slice Ao26 t279.length co26) t279) := ⟨(by rw [hw]; exact (by (with_reducible repeat (first | apply Kd.R_alloc | apply Kd.R_drewN | apply Kd.R_drew)); exact Kd.R_mono (Kd.R_far (p := ⟨gb289, 1, none⟩) (Kd.R_far (p := ⟨gb289, 0, none⟩) (Kd.R_types HO281.out BK289.out (by decide)) (fun _ hk => hk.2) (.slice Ao24 t276.length co24)) (fun _ hk => hk.2) (.slice Ao26 t279.length co26)) (fun _ hk => hk.1.1.1.2)))⟩; have n3_ : Aside0 (Kd.N (Kd.slice 5 (Kd.int .u8)) 22 w27 w.heap.size (fun k_ => some k_ ≠ (v262 : Value).ownBlock ∧ some k_ ≠ (.slice Ao26 t279.length co26 : Value).ownBlock ∧ k_ ≠ gb275 ∧ k_ ≠ gb289) v287 t286) := ⟨(by rw [hw]; exact (by (with_reducible repeat (first | apply Kd.N_alloc | apply Kd.N_drewN | apply Kd.N_drew)); exact Kd.N_mono (Kd.N_far (p := ⟨gb289, 1, none⟩) (Kd.N_far (p := ⟨gb289, 0, none⟩) (Kd.N_mono HO288.out (fun k_ hk => (⟨hk, hk.2⟩ : _ ∧ k_ ≠ gb289))) (fun _ hk => hk.2) (.slice Ao24 t276.length co24)) (fun _ hk => hk.2) (.slice Ao26 t279.length co26)) (fun _ hk => ⟨hk.1.1.2.1, ⟨hk.1.1.1, ⟨hk.1.1.2.2.2.2, hk.1.2⟩⟩⟩)))⟩; have n4_ : Aside0 (w27.heap[gb289]? = some (.cells #[.slice Ao24 t276.length co24, .slice Ao26 t279.length co26] 24 (0, 0))) := ⟨(by rw [hw]; exact (by (with_reducible repeat (first | refine blk_drewN ?_ _ | refine blk_drew ?_ | refine blk_alloc ?_ _)); refine blk_put (cs := #[.slice Ao24 t276.length co24, .slice none 0 0]) ?_ 1 _ rfl; (with_reducible repeat (first | refine blk_drewN ?_ _ | refine blk_drew ?_ | refine blk_alloc ?_ _)); refine blk_put (cs := #[.slice none 0 0, .slice none 0 0]) ?_ 0 _ rfl; (with_reducible repeat (first | refine blk_drewN ?_ _ | refine blk_drew ?_ | refine blk_alloc ?_ _)); exact BK289.out))⟩; have n5_ : Aside0 (Below w.heap.size w w27) := ⟨(by rw [hw]; exact (by repeat (first | (with_reducible first | exact HB.out | apply below_alloc | apply pw_below_drewN | apply below_drew1 | refine below_set ?_ GE289.out) | exact HB.out)))⟩; clear hw; clear HO263; clear HO278; clear HO281; clear HO288; clear BK289; clear HB; have HO263 := n0_; have HO278 := n1_; have HO281 := n2_; have HO288 := n3_; have BK289 := n4_; have HB := n5_; clear n0_ n1_ n2_ n3_ n4_ n5_; have hcv28 := own_string (P := Try.prog) Try.underlying22 Try.underlying5 Try.underlying9 (Kd.own_of_R HO263.out); obtain ⟨Ao29, co29, eo29⟩ := Kd.N_slice HO288.out; subst eo29; have p290 : 0 ≤ (0 : Int) := (by omega); have q290 : 0 < (t286.length : Int) := of_decide_eq_true (by first | (with_reducible assumption) | assumption); obtain ⟨ad290, A290_0, c290_0, e290, hx290_0, hl290_0, hi290_0⟩ := at_L1 (Kd.N_reads' HO288.out).2.2 0 p290 q290; cases e290; obtain ⟨ce290, hce290, hMe290, hcc290⟩ := Kd.N_get HO288.out [] 0 p290 (by first | exact q290 | exact of_decide_eq_true (by first | (with_reducible assumption) | assumption) | (have e_ := (Kd.N_reads' HO288.out).1; omega)); obtain ⟨ua290_0, uc290_0, rfl, ul290_0, ge290_0⟩ := Kd.FK_slice_open hMe290; have hv290_0 := hcc290 0 _ rfl; rw [Nat.add_zero, show ((Kd.slice 5 (Kd.int .u8))).sz = 1 from rfl, Nat.mul_one] at hv290_0; replace hv290_0 := Option.some.inj (hv290_0.symm.trans hx290_0); injection hv290_0 with hva_ hvn_ hvc_; rw [hva_] at ge290_0; rw [hvc_] at ul290_0; have HL290_0 := Aside0.mk (show Kd.V (Kd.int .u8) 5 _ w.heap.size _ _ (rd_L1 t286 0) from Kd.V_mk ul290_0 ge290_0); clear hva_ hvn_ hvc_ ge290_0 ul290_0; clear hcc290 hce290; have qi290 : (0 < t286.length) = True := eq_true (by omega); (try rw [show ((0 : Int)).toNat = 0 from rfl] at hx290_0); (try rw [Addr.add_zero'] at hx290_0); have HR290_0 := Aside0.mk hi290_0; have HC290_0 := Aside0.mk hl290_0; clear hi290_0 hl290_0; replace p290 := eq_true p290; replace q290 := eq_true q290; have hcv30 := Kd.C_string (P := Try.prog) (A := A290_0) (c := c290_0) Try.underlying22 Try.underlying5 Try.underlying9 (by exact pC HR290_0.out)))
  go_ret
  exact ⟨by first | rfl | (rw [HTR.out]; first | done | rfl) | (simp [errW_none, errW_some] <;> rfl) | (simp [*, errW_none, errW_some] <;> rfl), by exact pB HB.out⟩

theorem customslaw34_awake.truth (k : Nat) (r : Bool) (h : customslaw34_awake.f k = some r) : r = true := by
  have h0 : customslaw34_awake.f 60 = some true := by kernel_rfl
  have up : ∀ (j k0 : Nat) (r0 : Bool), customslaw34_awake.f k0 = some r0 → customslaw34_awake.f (k0 + j) = some r0 := by
    intro j
    induction j with
    | zero => exact fun _ _ h => h
    | succ j ih => exact fun k0 r0 h => customslaw34_awake.mono (k0 + j) r0 (ih k0 r0 h)
  have a := up 60 k r h
  have b := up k 60 true h0
  rw [Nat.add_comm] at b
  rw [a] at b
  exact Option.some.inj b
theorem customslaw34_awake.calls (k : Nat) (r : Bool) (w : World) (h : customslaw34_awake.f k = some r) :
    Calls Try.prog 32 #[] w fun e w' => e = .returned (.bool r) ∧ Below w.heap.size w w' := by
  obtain rfl := customslaw34_awake.truth k r h
  exact customslaw34_awake.calls1 k w h

/-! ### customslaw34_cut: function 33 -/
mutual
def customslaw34_cut.l0 : Nat → List (List Int) → List (List Int) → Int → Option ((List (List Int)))
  | 0, _, _, _ => none
  | k + 1, x0, x3, x4 => if x4 < (x0.length : Int) then (customslaw34_cut.j1 k x0 x3 x4 (decide (x4 < 16))) else (customslaw34_cut.j1 k x0 x3 x4 false)
def customslaw34_cut.j1 : Nat → List (List Int) → List (List Int) → Int → Bool → Option ((List (List Int)))
  | 0, _, _, _, _ => none
  | k + 1, x0, x3, x4, x13 => if x13 = true then (if 0 ≤ x4 then (if x4 < (x0.length : Int) then (if ((rd_L1 x0 x4).length : Int) > 300 then (if 300 ≤ ((rd_L1 x0 x4).length : Int) then (if x3.length < 5864062014805 then (customslaw34_cut.l0 k x0 (x3 ++ [((rd_L1 x0 x4).take 300)]) (wrap64 (x4 + 1))) else (none)) else (none)) else (if x3.length < 5864062014805 then (customslaw34_cut.l0 k x0 (x3 ++ [rd_L1 x0 x4]) (wrap64 (x4 + 1))) else (none))) else (none)) else (none)) else (some x3)
end
def customslaw34_cut.f (k : Nat) (l0 : List (List Int)) : Option ((List (List Int))) := customslaw34_cut.l0 k l0 ([] : List (List Int)) 0
theorem customslaw34_cut.mono_l : ∀ k, (∀ y0 y1 y2, LeO (customslaw34_cut.l0 k y0 y1 y2) (customslaw34_cut.l0 (k + 1) y0 y1 y2)) ∧ (∀ y0 y1 y2 y3, LeO (customslaw34_cut.j1 k y0 y1 y2 y3) (customslaw34_cut.j1 (k + 1) y0 y1 y2 y3))
  | 0 => ⟨fun _ _ _ r h => by simp [customslaw34_cut.l0] at h, fun _ _ _ _ r h => by simp [customslaw34_cut.j1] at h⟩
  | k + 1 => by
    obtain ⟨ih0, ih1⟩ := customslaw34_cut.mono_l k
    refine ⟨?_, ?_⟩
    · intro y0 y1 y2
      unfold customslaw34_cut.l0
      repeat' first
      | (with_reducible exact ih0 _ _ _)
      | (with_reducible exact ih1 _ _ _ _)
      | (with_reducible exact LeO.refl _)
      | (with_reducible exact LeO.none _)
      | (with_reducible refine LeO.ite ?_ ?_)
      | (with_reducible refine LeO.bind ?_ (fun _ => ?_))
      | exact ih0 _ _ _
      | exact ih1 _ _ _ _
      | exact LeO.none _
      | refine LeO.ite ?_ ?_
      | refine LeO.bind ?_ (fun _ => ?_)
    · intro y0 y1 y2 y3
      unfold customslaw34_cut.j1
      repeat' first
      | (with_reducible exact ih0 _ _ _)
      | (with_reducible exact ih1 _ _ _ _)
      | (with_reducible exact LeO.refl _)
      | (with_reducible exact LeO.none _)
      | (with_reducible refine LeO.ite ?_ ?_)
      | (with_reducible refine LeO.bind ?_ (fun _ => ?_))
      | exact ih0 _ _ _
      | exact ih1 _ _ _ _
      | exact LeO.none _
      | refine LeO.ite ?_ ?_
      | refine LeO.bind ?_ (fun _ => ?_)
theorem customslaw34_cut.mono : ∀ a0 k, LeO (customslaw34_cut.f k a0) (customslaw34_cut.f (k + 1) a0) := by
  intro a0 k
  obtain ⟨ih0, ih1⟩ := customslaw34_cut.mono_l k
  unfold customslaw34_cut.f
  repeat' first
      | (with_reducible exact ih0 _ _ _)
      | (with_reducible exact ih1 _ _ _ _)
      | (with_reducible exact LeO.refl _)
      | (with_reducible exact LeO.none _)
      | (with_reducible refine LeO.ite ?_ ?_)
      | (with_reducible refine LeO.bind ?_ (fun _ => ?_))
      | exact ih0 _ _ _
      | exact ih1 _ _ _ _
      | exact LeO.none _
      | refine LeO.ite ?_ ?_
      | refine LeO.bind ?_ (fun _ => ?_)
set_option maxHeartbeats 8000000 in
set_option maxRecDepth 100000 in
theorem customslaw34_cut.calls (k : Nat) (P0_ : Nat → Prop) (A0 : Option Addr) (c0 : Nat) (l0 : List (List Int)) (r : List (List Int)) (w : World) (hs0 : Kd.V (Kd.slice 5 (Kd.int .u8)) 22 w w.heap.size (fun k_ => P0_ k_) (.slice A0 l0.length c0) l0) (h : customslaw34_cut.f k l0 = some r) :
    Calls Try.prog 33 #[.slice A0 l0.length c0] w fun e w' => ∃ v0_ : Value, e = .returned (v0_) ∧ Kd.N (Kd.slice 5 (Kd.int .u8)) 22 w' w.heap.size (fun k_ => (P0_ k_ ∨ w.heap.size ≤ k_)) v0_ r ∧ Below w.heap.size w w' := by
  have HO0 := Aside0.mk (show Kd.V (Kd.slice 5 (Kd.int .u8)) 22 w w.heap.size (fun k_ => (P0_ k_ ∨ w.heap.size ≤ k_)) (.slice A0 l0.length c0) l0 from Kd.V_mono hs0 (fun k_ hk => .inl hk))
  have HB := Aside0.mk (Below.refl w.heap.size w)
  have H : (customslaw34_cut.l0 k l0 ([] : List (List Int)) 0) = some r := h
  clear h
  have H' := Aside0.mk H
  clear H
  go_enter Try.func33, Try.ntmps33
  go_wp2
  go_loopg [3, 4] k (fun kq v3 v4 w' => ∃ (x3_1 : List (List Int)) (x4_1 : Int), v4 = .int .i64 x4_1 ∧ Aside0 (customslaw34_cut.l0 kq l0 x3_1 x4_1 = some r) ∧ Aside0 (kq ≤ k) ∧ Aside0 (Kd.V (Kd.slice 5 (Kd.int .u8)) 22 w' w.heap.size (fun k_ => (P0_ k_ ∨ w.heap.size ≤ k_) ∧ some k_ ≠ (v3 : Value).ownBlock) (.slice A0 l0.length c0) l0) ∧ Aside0 (Kd.N (Kd.slice 5 (Kd.int .u8)) 22 w' w.heap.size (fun k_ => (P0_ k_ ∨ w.heap.size ≤ k_)) v3 x3_1) ∧ Aside0 (Below w.heap.size w w'))
  case atStart => exact ⟨(([] : List (List Int))), (0), (by first | rfl | (simp; done) | (simp [*]; done)), H', ⟨Nat.le_refl _⟩, ⟨by exact pV (Kd.V_mono HO0.out (fun _ hk => ⟨hk, (by simp [Value.ownBlock])⟩))⟩, ⟨by first | exact Kd.S_nil _ _ _ _ _ | exact Kd.N_nil _ _ _ _ _ | exact Kd.V_nil _ _ _ _ _ | exact Kd.Q_nil _ _ _ _ _ | exact Kd.R_nil _ _ _ _ _⟩, ⟨by exact pB HB.out⟩⟩
  case round =>
    clear H'
    obtain ⟨x3_1, x4_1, rfl, HA, HK1, HO_0, HO_3, HB⟩ := hrel
    cases gk with
    | zero => exact absurd HA.out (by simp [customslaw34_cut.l0])
    | succ k1 =>
      have H := HA.out
      clear HA
      simp only [customslaw34_cut.l0] at H
      have HC2 := Aside0.mk H
      clear H
      go_upto_region 3 with (fail)
      go_cut [13] (fun v13 wc => ∃ (kq : Nat) (x13_1 : Bool), v13 = .bool x13_1 ∧ Aside0 (customslaw34_cut.j1 kq l0 x3_1 x4_1 x13_1 = some r) ∧ Aside0 (kq ≤ k1) ∧ Aside0 (Kd.V (Kd.slice 5 (Kd.int .u8)) 22 wc w.heap.size (fun k_ => (P0_ k_ ∨ w.heap.size ≤ k_) ∧ some k_ ≠ (u3 : Value).ownBlock) (.slice A0 l0.length c0) l0) ∧ Aside0 (Kd.N (Kd.slice 5 (Kd.int .u8)) 22 wc w.heap.size (fun k_ => (P0_ k_ ∨ w.heap.size ≤ k_)) u3 x3_1) ∧ Aside0 (Below w.heap.size w wc))
      case first =>
        have H := HC2.out
        clear HC2
        by_cases c3 : x4_1 < (l0.length : Int)
        · rw [if_pos c3] at H
          have c3b0 : decide (x4_1 < (l0.length : Int)) = true := decide_eq_true c3
          clear c3
          (first | rw [c3b0] | (simp only [i64_w, i32_w]; rw [c3b0]) | skip)
          have H' := Aside0.mk H
          clear H
          go_wp2
          go_meet
          case rel => exact ⟨_, (decide (x4_1 < 16)), (by first | rfl | (simp; done) | (simp [*]; done)), H', ⟨by have := HK1.out; first | omega | exact Nat.le_refl _⟩, ⟨by exact pV HO_0.out⟩, ⟨by exact pN HO_3.out⟩, ⟨by exact pB HB.out⟩⟩
        · rw [if_neg c3] at H
          have c3b0 : decide (x4_1 < (l0.length : Int)) = false := decide_eq_false c3
          clear c3
          (first | rw [c3b0] | (simp only [i64_w, i32_w]; rw [c3b0]) | skip)
          have H' := Aside0.mk H
          clear H
          go_wp2
          go_meet
          case rel => exact ⟨_, (false), (by first | rfl | (simp; done) | (simp [*]; done)), H', ⟨by have := HK1.out; first | omega | exact Nat.le_refl _⟩, ⟨by exact pV HO_0.out⟩, ⟨by exact pN HO_3.out⟩, ⟨by exact pB HB.out⟩⟩
      case rest =>
        clear HC2
        try clear p2
        try clear c3
        try clear c3b0
        obtain ⟨kq, x13_1, rfl, HA, HJ1, HO_0, HO_3, HB⟩ := hcut
        cases kq with
        | zero => exact absurd HA.out (by simp [customslaw34_cut.j1])
        | succ kj1 =>
          have H := HA.out
          clear HA
          simp only [customslaw34_cut.j1] at H
          by_cases c4 : x13_1 = true
          · subst c4
            have H1 : (if 0 ≤ x4_1 then (if x4_1 < (l0.length : Int) then (if ((rd_L1 l0 x4_1).length : Int) > 300 then (if 300 ≤ ((rd_L1 l0 x4_1).length : Int) then (if x3_1.length < 5864062014805 then (customslaw34_cut.l0 kj1 l0 (x3_1 ++ [((rd_L1 l0 x4_1).take 300)]) (wrap64 (x4_1 + 1))) else (none)) else (none)) else (if x3_1.length < 5864062014805 then (customslaw34_cut.l0 kj1 l0 (x3_1 ++ [rd_L1 l0 x4_1]) (wrap64 (x4_1 + 1))) else (none))) else (none)) else (none)) = some r := by rw [if_pos rfl] at H; exact H
            clear H
            have H := H1
            clear H1
            have c5 : 0 ≤ x4_1 := by
              refine Classical.byContradiction fun c5 => ?_
              rw [if_neg c5] at H
              exact absurd H (by simp)
            rw [if_pos c5] at H
            have c5b0 : decide (0 ≤ x4_1) = true := decide_eq_true c5
            clear c5
            have c6 : x4_1 < (l0.length : Int) := by
              refine Classical.byContradiction fun c6 => ?_
              rw [if_neg c6] at H
              exact absurd H (by simp)
            rw [if_pos c6] at H
            have c6b0 : decide (x4_1 < (l0.length : Int)) = true := decide_eq_true c6
            clear c6
            by_cases c7 : ((rd_L1 l0 x4_1).length : Int) > 300
            · rw [if_pos c7] at H
              have c7b0 : decide (300 < ((rd_L1 l0 x4_1).length : Int)) = true := decide_eq_true c7
              have c7b1 : decide (300 < (rd_L1 l0 x4_1).length) = true := decide_eq_true (by omega)
              clear c7
              have c8 : 300 ≤ ((rd_L1 l0 x4_1).length : Int) := by
                refine Classical.byContradiction fun c8 => ?_
                rw [if_neg c8] at H
                exact absurd H (by simp)
              rw [if_pos c8] at H
              have c8b0 := eq_true c8
              have c8b1 : decide (300 ≤ ((rd_L1 l0 x4_1).length : Int)) = true := decide_eq_true c8
              clear c8
              obtain ⟨y292, hy292⟩ : ∃ y_ : List Int, y_ = ((rd_L1 l0 x4_1).take 300) := ⟨_, rfl⟩
              replace H : (if x3_1.length < 5864062014805 then (customslaw34_cut.l0 kj1 l0 (x3_1 ++ [y292]) (wrap64 (x4_1 + 1))) else (none)) = some r := by first | (rw [hy292]; with_reducible exact H) | (have H2_ := (Option.bind_some _ _).symm.trans H; rw [hy292]; with_reducible exact H2_) | (have H2_ := (Option.bind_some _ _).symm.trans H; with_reducible exact H2_) | with_reducible exact H | (rw [hy292]; exact H) | exact H
              have Ny292 := Aside0.mk hy292
              clear hy292
              have c9 : x3_1.length < 5864062014805 := by
                refine Classical.byContradiction fun c9 => ?_
                rw [if_neg c9] at H
                exact absurd H (by simp)
              rw [if_pos c9] at H
              have LMc9 := Aside0.mk c9
              clear c9
              obtain ⟨y297, hy297⟩ : ∃ y_ : List (List Int), y_ = (x3_1 ++ [y292]) := ⟨_, rfl⟩
              replace H : (customslaw34_cut.l0 kj1 l0 y297 (wrap64 (x4_1 + 1))) = some r := by first | (rw [hy297]; with_reducible exact H) | (have H2_ := (Option.bind_some _ _).symm.trans H; rw [hy297]; with_reducible exact H2_) | (have H2_ := (Option.bind_some _ _).symm.trans H; with_reducible exact H2_) | with_reducible exact H | (rw [hy297]; exact H) | exact H
              have Ny297 := Aside0.mk hy297
              clear hy297
              have H' := Aside0.mk H
              clear H
              have p291 : 0 ≤ (x4_1 : Int) := of_decide_eq_true (by first | (with_reducible assumption) | assumption)
              have q291 : x4_1 < (l0.length : Int) := of_decide_eq_true (by first | (with_reducible assumption) | assumption)
              obtain ⟨ad291, A291_0, c291_0, e291, hx291_0, hl291_0, hi291_0⟩ := at_L1 (Kd.V_reads' HO_0.out).2.2 x4_1 p291 q291
              cases e291
              obtain ⟨ce291, hce291, hMe291, hcc291⟩ := Kd.V_get HO_0.out [] x4_1 p291 (by first | exact q291 | exact of_decide_eq_true (by first | (with_reducible assumption) | assumption) | (have e_ := (Kd.V_reads' HO_0.out).1; omega))
              obtain ⟨ua291_0, uc291_0, rfl, ul291_0, ge291_0⟩ := Kd.FK_slice_open hMe291
              have hv291_0 := hcc291 0 _ rfl
              rw [Nat.add_zero, show ((Kd.slice 5 (Kd.int .u8))).sz = 1 from rfl, Nat.mul_one] at hv291_0
              replace hv291_0 := Option.some.inj (hv291_0.symm.trans hx291_0)
              injection hv291_0 with hva_ hvn_ hvc_
              rw [hva_] at ge291_0
              rw [hvc_] at ul291_0
              have HL291_0 := Aside0.mk (show Kd.V (Kd.int .u8) 5 _ w.heap.size _ _ (rd_L1 l0 x4_1) from Kd.V_mk ul291_0 ge291_0)
              clear hva_ hvn_ hvc_ ge291_0 ul291_0
              clear hcc291 hce291
              have HR291_0 := Aside0.mk hi291_0
              have HC291_0 := Aside0.mk hl291_0
              clear hi291_0 hl291_0
              replace p291 := eq_true p291
              replace q291 := eq_true q291
              have q10 : (300 : Int) ≤ (((rd_L1 l0 x4_1).length : Int) : Int) := of_decide_eq_true (by first | (with_reducible assumption) | assumption)
              obtain ⟨i010, hi010, _, hsz10, _⟩ := info_parts info5
              have hroom10 : (rd_L1 l0 x4_1).length ≤ c291_0 := HC291_0.out
              have hC10 : Kd.F (Kd.int .u8) _ _ A291_0 (rd_L1 l0 x4_1).length (rd_L1 l0 x4_1) := (Kd.V_at (base := w.heap.size) HL291_0.out).2.2
              have hcut10 := cut_to (P := Try.prog) 22 5 .i64 Try.underlying22 hi010 A291_0 (rd_L1 l0 x4_1).length c291_0 300 (by omega) q10 hroom10
              have hr10 := Kd.F_take (m := 300) hC10 (by omega)
              have hy10 : y292.length = (300 : Int).toNat := (by rw [Ny292.out, List.length_take]; omega)
              rw [← Ny292.out] at hr10
              rw [← hy10] at hcut10
              have HO296 := Aside0.mk (show Kd.V (Kd.int .u8) 5 _ w.heap.size _ (.slice A291_0 y292.length c291_0) y292 from Kd.V_mk (by omega) hr10)
              have HC296 := Aside0.mk (show y292.length ≤ c291_0 from by omega)
              clear hr10 hC10 hroom10 hi010 hsz10
              have KY10 := Aside0.mk hy10
              clear hy10
              replace q10 := eq_true q10
              go_wp2_with (first | ((with_reducible refine gate_builtin (b := .append) (xs := #[.tmp 25, .tmp 27]) rfl ?_); at_builtin; refine Kd.N_append (Kd.slice 5 (Kd.int .u8)) (w0 := w) w.heap.size rfl (.tmp 25) (.tmp 27) 34 22 (.slice none 0 0) 24 rfl Try.underlying34 info22 rfl (by decide) (by omega) u3 x3_1 y292 [.slice A291_0 y292.length c291_0] (fun k_ => (P0_ k_ ∨ w.heap.size ≤ k_)) (fun k_ => ((fun k_ => (P0_ k_ ∨ w.heap.size ≤ k_))) k_ ∧ some k_ ≠ (u3 : Value).ownBlock) rfl rfl ?aP (fun _ hk => hk) ?aF ?aO ?aB ?aS ?aL ?_; (case aP => exact (Kd.FK_slice_mk (Kd.V_reads' (Kd.V_mono (ok' := (fun k_ => ((fun k_ => (P0_ k_ ∨ w.heap.size ≤ k_))) k_ ∧ some k_ ≠ (u3 : Value).ownBlock)) (HO296.out) (fun k_ hk => ⟨hk.1, hk.2⟩))).2.1 (Kd.V_F (Kd.V_mono (ok' := (fun k_ => ((fun k_ => (P0_ k_ ∨ w.heap.size ≤ k_))) k_ ∧ some k_ ≠ (u3 : Value).ownBlock)) (HO296.out) (fun k_ hk => ⟨hk.1, hk.2⟩))))); (case aB => exact (by exact pB HB.out)); (case aF => exact (fun k_ hk => (.inr (Nat.le_trans (below_size (by exact pB HB.out)) hk)))); (case aO => exact (by exact pN HO_3.out)); (case aS => exact (below_size (by exact pB HB.out))); (case aL => have := LMc9.out; omega); intro v298 w11 ho hb hg hat; rw [← Ny297.out] at ho; have n0_ := Aside0.mk (Kd.V_afterv (ok := (fun k_ => (P0_ k_ ∨ w.heap.size ≤ k_))) (by exact pV HO_0.out) hg hat); have n1_ := Aside0.mk (Kd.V_afterv (ok := (fun k_ => (P0_ k_ ∨ w.heap.size ≤ k_))) (by exact pV HL291_0.out) hg hat); have n2_ := Aside0.mk (Kd.V_afterv (ok := (fun k_ => (P0_ k_ ∨ w.heap.size ≤ k_))) (by exact pV HO296.out) hg hat); have n3_ := Aside0.mk (hb); have n4_ := Aside0.mk (ho); clear HO_0; clear HL291_0; clear HO296; clear HB; clear HO_3; have HO_0 := n0_; have HL291_0 := n1_; have HO296 := n2_; have HB := n3_; have HO299 := n4_; clear n0_ n1_ n2_ n3_ n4_; clear ho hb hg hat))
              go_roundg kj1
              case measure => have := HK1.out; have := HJ1.out; omega
              case rel => exact ⟨(y297), (wrap64 (x4_1 + 1)), (by first | rfl | (simp; done) | (simp [*]; done)), H', ⟨by have := HK1.out; have := HJ1.out; omega⟩, ⟨by exact pV HO_0.out⟩, ⟨by exact pN HO299.out⟩, ⟨by exact pB HB.out⟩⟩
            · rw [if_neg c7] at H
              have c7b0 : decide (300 < ((rd_L1 l0 x4_1).length : Int)) = false := decide_eq_false c7
              have c7b1 : decide (300 < (rd_L1 l0 x4_1).length) = false := decide_eq_false (by omega)
              clear c7
              have c12 : x3_1.length < 5864062014805 := by
                refine Classical.byContradiction fun c12 => ?_
                rw [if_neg c12] at H
                exact absurd H (by simp)
              rw [if_pos c12] at H
              have LMc12 := Aside0.mk c12
              clear c12
              obtain ⟨y300, hy300⟩ : ∃ y_ : List (List Int), y_ = (x3_1 ++ [rd_L1 l0 x4_1]) := ⟨_, rfl⟩
              replace H : (customslaw34_cut.l0 kj1 l0 y300 (wrap64 (x4_1 + 1))) = some r := by first | (rw [hy300]; with_reducible exact H) | (have H2_ := (Option.bind_some _ _).symm.trans H; rw [hy300]; with_reducible exact H2_) | (have H2_ := (Option.bind_some _ _).symm.trans H; with_reducible exact H2_) | with_reducible exact H | (rw [hy300]; exact H) | exact H
              have Ny300 := Aside0.mk hy300
              clear hy300
              have H' := Aside0.mk H
              clear H
              have p291 : 0 ≤ (x4_1 : Int) := of_decide_eq_true (by first | (with_reducible assumption) | assumption)
              have q291 : x4_1 < (l0.length : Int) := of_decide_eq_true (by first | (with_reducible assumption) | assumption)
              obtain ⟨ad291, A291_0, c291_0, e291, hx291_0, hl291_0, hi291_0⟩ := at_L1 (Kd.V_reads' HO_0.out).2.2 x4_1 p291 q291
              cases e291
              obtain ⟨ce291, hce291, hMe291, hcc291⟩ := Kd.V_get HO_0.out [] x4_1 p291 (by first | exact q291 | exact of_decide_eq_true (by first | (with_reducible assumption) | assumption) | (have e_ := (Kd.V_reads' HO_0.out).1; omega))
              obtain ⟨ua291_0, uc291_0, rfl, ul291_0, ge291_0⟩ := Kd.FK_slice_open hMe291
              have hv291_0 := hcc291 0 _ rfl
              rw [Nat.add_zero, show ((Kd.slice 5 (Kd.int .u8))).sz = 1 from rfl, Nat.mul_one] at hv291_0
              replace hv291_0 := Option.some.inj (hv291_0.symm.trans hx291_0)
              injection hv291_0 with hva_ hvn_ hvc_
              rw [hva_] at ge291_0
              rw [hvc_] at ul291_0
              have HL291_0 := Aside0.mk (show Kd.V (Kd.int .u8) 5 _ w.heap.size _ _ (rd_L1 l0 x4_1) from Kd.V_mk ul291_0 ge291_0)
              clear hva_ hvn_ hvc_ ge291_0 ul291_0
              clear hcc291 hce291
              have HR291_0 := Aside0.mk hi291_0
              have HC291_0 := Aside0.mk hl291_0
              clear hi291_0 hl291_0
              replace p291 := eq_true p291
              replace q291 := eq_true q291
              go_wp2_with (first | ((with_reducible refine gate_builtin (b := .append) (xs := #[.tmp 25, .tmp 27]) rfl ?_); at_builtin; refine Kd.N_append (Kd.slice 5 (Kd.int .u8)) (w0 := w) w.heap.size rfl (.tmp 25) (.tmp 27) 34 22 (.slice none 0 0) 24 rfl Try.underlying34 info22 rfl (by decide) (by omega) u3 x3_1 (rd_L1 l0 x4_1) [.slice A291_0 (rd_L1 l0 x4_1).length c291_0] (fun k_ => (P0_ k_ ∨ w.heap.size ≤ k_)) (fun k_ => ((fun k_ => (P0_ k_ ∨ w.heap.size ≤ k_))) k_ ∧ some k_ ≠ (u3 : Value).ownBlock) rfl rfl ?aP (fun _ hk => hk) ?aF ?aO ?aB ?aS ?aL ?_; (case aP => exact (Kd.FK_slice_mk (Kd.V_reads' (Kd.V_mono (ok' := (fun k_ => ((fun k_ => (P0_ k_ ∨ w.heap.size ≤ k_))) k_ ∧ some k_ ≠ (u3 : Value).ownBlock)) (HL291_0.out) (fun k_ hk => ⟨hk.1, hk.2⟩))).2.1 (Kd.V_F (Kd.V_mono (ok' := (fun k_ => ((fun k_ => (P0_ k_ ∨ w.heap.size ≤ k_))) k_ ∧ some k_ ≠ (u3 : Value).ownBlock)) (HL291_0.out) (fun k_ hk => ⟨hk.1, hk.2⟩))))); (case aB => exact (by exact pB HB.out)); (case aF => exact (fun k_ hk => (.inr (Nat.le_trans (below_size (by exact pB HB.out)) hk)))); (case aO => exact (by exact pN HO_3.out)); (case aS => exact (below_size (by exact pB HB.out))); (case aL => have := LMc12.out; omega); intro v301 w13 ho hb hg hat; rw [← Ny300.out] at ho; have n0_ := Aside0.mk (Kd.V_afterv (ok := (fun k_ => (P0_ k_ ∨ w.heap.size ≤ k_))) (by exact pV HO_0.out) hg hat); have n1_ := Aside0.mk (Kd.V_afterv (ok := (fun k_ => (P0_ k_ ∨ w.heap.size ≤ k_))) (by exact pV HL291_0.out) hg hat); have n2_ := Aside0.mk (hb); have n3_ := Aside0.mk (ho); clear HO_0; clear HL291_0; clear HB; clear HO_3; have HO_0 := n0_; have HL291_0 := n1_; have HB := n2_; have HO302 := n3_; clear n0_ n1_ n2_ n3_; clear ho hb hg hat))
              go_roundg kj1
              case measure => have := HK1.out; have := HJ1.out; omega
              case rel => exact ⟨(y300), (wrap64 (x4_1 + 1)), (by first | rfl | (simp; done) | (simp [*]; done)), H', ⟨by have := HK1.out; have := HJ1.out; omega⟩, ⟨by exact pV HO_0.out⟩, ⟨by exact pN HO302.out⟩, ⟨by exact pB HB.out⟩⟩
          · replace c4 := Bool.eq_false_iff.mpr c4
            subst c4
            have H1 : (some x3_1) = some r := by rw [if_neg (show ¬ (false = true) by decide)] at H; exact H
            clear H
            have H := H1
            clear H1
            obtain rfl := Option.some.inj H
            go_wp2
            go_ret
            exact ⟨_, by first | rfl | (simp [errW_none, errW_some] <;> rfl) | (simp [*, errW_none, errW_some] <;> rfl), by exact pN HO_3.out, by exact pB HB.out⟩

/-! ### customsref33_Write: function 13 -/
def customsref33_Write.f (l0_0 : List Int) (l0_1 : List Int) (l1 : List Int) : Option (List Int × List Int × Int) := if (wrap64 ((l0_0.length : Int) + (l0_1.length : Int))) > (wrap64 (1000000 - (l1.length : Int))) then (some (([] : List Int), ([] : List Int), 8)) else ((some (([] : List Int) : List Int)).bind fun y305 => (if y305.length + l0_1.length < 140737488355328 then ((some (y305 ++ l0_1 : List Int)).bind fun y308 => (if y308.length + l1.length < 140737488355328 then (some (l0_0, (y308 ++ l1), 0)) else (none))) else (none)))
def customsref33_Write.T3 : Bool × List (List Nat × List Nat) := (true, [([], []), ([0], [0]), ([], []), ([], []), ([3], [3]), ([2, 4], [2, 4]), ([], []), ([5, 6, 5], [5, 6]), ([1, 7], [1, 7]), ([8, 7, 0, 1, 2, 3, 4, 5, 6, 7, 8], [8]), ([9, 0, 1, 2, 3, 4, 5, 6, 7, 8, 9], [])])
def customsref33_Write.B3 : List Nat := [0, 1, 0, 0, 8, 28, 0, 124, 255, 511, 1023]
theorem customsref33_Write.tab3 : rtab .any (opsOf Try.f13 3) = customsref33_Write.T3 := by kernel_rfl
theorem customsref33_Write.bits3 : waitsOk customsref33_Write.T3.2 customsref33_Write.B3 = true := by kernel_rfl
set_option maxHeartbeats 8000000 in
set_option maxRecDepth 100000 in
theorem customsref33_Write.calls (P0_0_ : Nat → Prop) (A0_0 : Option Addr) (c0_0 : Nat) (l0_0 : List Int) (A0_1 : Option Addr) (c0_1 : Nat) (l0_1 : List Int) (A1 : Option Addr) (c1 : Nat) (l1 : List Int) (r1 : List Int) (r2 : List Int) (r3 : Int) (w : World) (hs0_0 : Kd.V (Kd.int .u8) 5 w w.heap.size (fun k_ => P0_0_ k_) (.slice A0_0 l0_0.length c0_0) l0_0) (hr0_1 : Kd.C (Kd.int .u8) w A0_1 l0_1.length l0_1) (hc0_1 : l0_1.length ≤ c0_1) (hr1 : Kd.C (Kd.int .u8) w A1 l1.length l1) (hc1 : l1.length ≤ c1) (h : customsref33_Write.f l0_0 l0_1 l1 = some (r1, r2, r3)) :
    Calls Try.prog 13 #[.agg #[.slice A0_0 l0_0.length c0_0, .slice A0_1 l0_1.length c0_1], .slice A1 l1.length c1] w fun e w' => ∃ v0_ v1_ : Value, e = .returned (.tuple #[.agg #[v0_, v1_], .int .i64 r3]) ∧ Kd.V (Kd.int .u8) 5 w' w.heap.size (fun k_ => (P0_0_ k_ ∨ w.heap.size ≤ k_) ∧ some k_ ≠ (v1_ : Value).ownBlock) v0_ r1 ∧ Kd.R (Kd.int .u8) 5 w' w.heap.size (fun k_ => (w.heap.size ≤ k_)) v1_ r2 ∧ Below w.heap.size w w' := by
  have hu24 := Try.underlying24
  have HO0_0 := Aside0.mk (show Kd.V (Kd.int .u8) 5 w w.heap.size (fun k_ => (P0_0_ k_ ∨ w.heap.size ≤ k_)) (.slice A0_0 l0_0.length c0_0) l0_0 from Kd.V_mono hs0_0 (fun k_ hk => .inl hk))
  have HR0_1 := Aside0.mk hr0_1
  have HC0_1 := Aside0.mk hc0_1
  clear hr0_1 hc0_1
  have HR1 := Aside0.mk hr1
  have HC1 := Aside0.mk hc1
  clear hr1 hc1
  have HB := Aside0.mk (Below.refl w.heap.size w)
  have H : (if (wrap64 ((l0_0.length : Int) + (l0_1.length : Int))) > (wrap64 (1000000 - (l1.length : Int))) then (some (([] : List Int), ([] : List Int), 8)) else ((some (([] : List Int) : List Int)).bind fun y305 => (if y305.length + l0_1.length < 140737488355328 then ((some (y305 ++ l0_1 : List Int)).bind fun y308 => (if y308.length + l1.length < 140737488355328 then (some (l0_0, (y308 ++ l1), 0)) else (none))) else (none)))) = some (r1, r2, r3) := h
  clear h
  by_cases c3 : (wrap64 ((l0_0.length : Int) + (l0_1.length : Int))) > (wrap64 (1000000 - (l1.length : Int)))
  · rw [if_pos c3] at H
    have c3b0 : decide ((wrap64 (1000000 - (l1.length : Int))) < (wrap64 ((l0_0.length : Int) + (l0_1.length : Int)))) = true := decide_eq_true c3
    clear c3
    simp only [Option.some.injEq, Prod.mk.injEq] at H
    obtain ⟨rfl, rfl, rfl⟩ := H
    go_enter Try.func13, Try.ntmps13
    go_wp2_with (first | ((with_reducible refine gate_dst (N := 2) rfl ?_); refine box_event ?hg (N := 2) ?hd (cs := #[.slice A0_0 l0_0.length c0_0, .slice A0_1 l0_1.length c0_1]) (t := 24) ?hr ?_; (case hd => rfl); (case hg => rfl); (case hr => first | (go_simp; done) | (go_simp; rfl)); intro gb303 hg w4 hbox hb; have n0_ := Aside0.mk (Kd.V_below (Kd.V_elderB (by exact pV HO0_0.out) gb303 (Nat.le_of_eq hg.symm)) hb); have n1_ := Aside0.mk (below_step (by exact pB HB.out) hb); have n2_ := Aside0.mk (hbox); have n3_ := Aside0.mk ((by rw [hg]; exact (below_size (by exact pB HB.out)) : w.heap.size ≤ gb303)); have n4_ := Aside0.mk ((by rw [hg]; exact (below_size (by exact pB HB.out)) : w.heap.size ≤ gb303)); clear HO0_0; clear HB; have HO0_0 := n0_; have HB := n1_; have BK303 := n2_; have GW303 := n3_; have GE303 := n4_; clear n0_ n1_ n2_ n3_ n4_; clear hb hbox hg) | ((with_reducible refine gate_dst (N := 4) rfl ?_); refine box_event ?hg (N := 4) ?hd (cs := #[.slice none 0 0, .slice none 0 0]) (t := 24) ?hr ?_; (case hd => rfl); (case hg => rfl); (case hr => first | (go_simp; done) | (go_simp; rfl)); intro gb304 hg w5 hbox hb; have n0_ := Aside0.mk (Kd.V_below (Kd.V_elderB (by exact pV HO0_0.out) gb304 (Nat.le_of_eq hg.symm)) hb); have n1_ := Aside0.mk (blk_below (g := gb303) (o := .cells #[.slice A0_0 l0_0.length c0_0, .slice A0_1 l0_1.length c0_1] 24 (0, 0)) (by exact pK BK303.out) hb); have n2_ := Aside0.mk (below_step (by exact pB HB.out) hb); have n3_ := Aside0.mk (hbox); have n4_ := Aside0.mk ((by rw [hg]; exact (below_size (by exact pB HB.out)) : w.heap.size ≤ gb304)); have n5_ := Aside0.mk ((by rw [hg]; exact (below_size (by exact pB HB.out)) : w.heap.size ≤ gb304)); have n6_ := Aside0.mk ((by rw [hg]; exact Nat.ne_of_lt (blk_lt (g := gb303) (o := .cells #[.slice A0_0 l0_0.length c0_0, .slice A0_1 l0_1.length c0_1] 24 (0, 0)) (by exact pK BK303.out)) : gb303 ≠ gb304)); have n7_ := Aside0.mk ((by rw [hg]; exact Nat.ne_of_gt (blk_lt (g := gb303) (o := .cells #[.slice A0_0 l0_0.length c0_0, .slice A0_1 l0_1.length c0_1] 24 (0, 0)) (by exact pK BK303.out)) : gb304 ≠ gb303)); clear HO0_0; clear BK303; clear HB; have HO0_0 := n0_; have BK303 := n1_; have HB := n2_; have BK304 := n3_; have GW304 := n4_; have GE304 := n5_; have NB303_304 := n6_; have NB304_303 := n7_; clear n0_ n1_ n2_ n3_ n4_ n5_ n6_ n7_; clear hb hbox hg; have hnb6 := NB303_304.out; have hnc6 := NB304_303.out; have hcz7_0 : w5.cell? ⟨gb303, 0, none⟩ = some (.slice A0_0 l0_0.length c0_0) := (blk_cell BK303.out 0).trans rfl; have hcz7_1 : w5.cell? ⟨gb303, 1, none⟩ = some (.slice A0_1 l0_1.length c0_1) := (blk_cell BK303.out 1).trans rfl; have hfz7_0 := blk_frozen BK303.out 0; have hfz7_1 := blk_frozen BK303.out 1; have hcz8_0 : w5.cell? ⟨gb304, 0, none⟩ = some (.slice none 0 0) := (blk_cell BK304.out 0).trans rfl; have hcz8_1 : w5.cell? ⟨gb304, 1, none⟩ = some (.slice none 0 0) := (blk_cell BK304.out 1).trans rfl; have hfz8_0 := blk_frozen BK304.out 0; have hfz8_1 := blk_frozen BK304.out 1))
    refine bodyPost_ret (results_ct rfl _ _ gb304 24 #[.slice none 0 0, .slice none 0 0] (0, 0) _ rfl (by (with_reducible repeat (first | refine blk_drewN ?_ _ | refine blk_drew ?_ | refine blk_alloc ?_ _)); refine blk_put (cs := #[.slice none 0 0, .slice none 0 0]) ?_ 1 _ rfl; (with_reducible repeat (first | refine blk_drewN ?_ _ | refine blk_drew ?_ | refine blk_alloc ?_ _)); refine blk_put (cs := #[.slice none 0 0, .slice none 0 0]) ?_ 0 _ rfl; (with_reducible repeat (first | refine blk_drewN ?_ _ | refine blk_drew ?_ | refine blk_alloc ?_ _)); exact BK304.out) Try.underlying24 rfl (by kernel_rfl)) rfl ?_
    exact ⟨_, _, by first | rfl | (simp [errW_none, errW_some] <;> rfl) | (simp [*, errW_none, errW_some] <;> rfl), by first | exact Kd.R_nil _ _ _ _ _ | exact Kd.N_nil _ _ _ _ _ | exact Kd.V_nil _ _ _ _ _ | exact Kd.Q_nil _ _ _ _ _ | exact Kd.S_nil _ _ _ _ _, by first | exact Kd.R_nil _ _ _ _ _ | exact Kd.N_nil _ _ _ _ _ | exact Kd.V_nil _ _ _ _ _ | exact Kd.Q_nil _ _ _ _ _ | exact Kd.S_nil _ _ _ _ _, by repeat (first | (with_reducible first | exact HB.out | apply below_alloc | apply pw_below_drewN | apply below_drew1 | refine below_set ?_ GE303.out | refine below_set ?_ GE304.out) | exact HB.out)⟩
  · rw [if_neg c3] at H
    have c3b0 : decide ((wrap64 (1000000 - (l1.length : Int))) < (wrap64 ((l0_0.length : Int) + (l0_1.length : Int)))) = false := decide_eq_false c3
    clear c3
    obtain ⟨y305, hy305⟩ : ∃ y_ : List Int, y_ = (([] : List Int)) := ⟨_, rfl⟩
    replace H : (if y305.length + l0_1.length < 140737488355328 then ((some (y305 ++ l0_1 : List Int)).bind fun y308 => (if y308.length + l1.length < 140737488355328 then (some (l0_0, (y308 ++ l1), 0)) else (none))) else (none)) = some (r1, r2, r3) := by first | (rw [hy305]; with_reducible exact H) | (have H2_ := (Option.bind_some _ _).symm.trans H; rw [hy305]; with_reducible exact H2_) | (have H2_ := (Option.bind_some _ _).symm.trans H; with_reducible exact H2_) | with_reducible exact H | (rw [hy305]; exact H) | exact H
    have Ny305 := Aside0.mk hy305
    clear hy305
    have c9 : y305.length + l0_1.length < 140737488355328 := by
      refine Classical.byContradiction fun c9 => ?_
      rw [if_neg c9] at H
      exact absurd H (by simp)
    rw [if_pos c9] at H
    have LMc9 := Aside0.mk c9
    clear c9
    obtain ⟨y308, hy308⟩ : ∃ y_ : List Int, y_ = (y305 ++ l0_1) := ⟨_, rfl⟩
    replace H : (if y308.length + l1.length < 140737488355328 then (some (l0_0, (y308 ++ l1), 0)) else (none)) = some (r1, r2, r3) := by first | (rw [hy308]; with_reducible exact H) | (have H2_ := (Option.bind_some _ _).symm.trans H; rw [hy308]; with_reducible exact H2_) | (have H2_ := (Option.bind_some _ _).symm.trans H; with_reducible exact H2_) | with_reducible exact H | (rw [hy308]; exact H) | exact H
    have Ny308 := Aside0.mk hy308
    clear hy308
    have c10 : y308.length + l1.length < 140737488355328 := by
      refine Classical.byContradiction fun c10 => ?_
      rw [if_neg c10] at H
      exact absurd H (by simp)
    rw [if_pos c10] at H
    have LMc10 := Aside0.mk c10
    clear c10
    obtain ⟨y311, hy311⟩ : ∃ y_ : List Int, y_ = (y308 ++ l1) := ⟨_, rfl⟩
    replace H : (some (l0_0, y311, 0)) = some (r1, r2, r3) := by first | (rw [hy311]; with_reducible exact H) | (have H2_ := (Option.bind_some _ _).symm.trans H; rw [hy311]; with_reducible exact H2_) | (have H2_ := (Option.bind_some _ _).symm.trans H; with_reducible exact H2_) | with_reducible exact H | (rw [hy311]; exact H) | exact H
    have Ny311 := Aside0.mk hy311
    clear hy311
    simp only [Option.some.injEq, Prod.mk.injEq] at H
    obtain ⟨rfl, rfl, rfl⟩ := H
    go_enter Try.func13, Try.ntmps13
    try go_wp2_with (first | ((with_reducible refine gate_dst (N := 2) rfl ?_); refine box_event ?hg (N := 2) ?hd (cs := #[.slice A0_0 l0_0.length c0_0, .slice A0_1 l0_1.length c0_1]) (t := 24) ?hr ?_; (case hd => rfl); (case hg => rfl); (case hr => first | (go_simp; done) | (go_simp; rfl)); intro gb303 hg w11 hbox hb; have n0_ := Aside0.mk (Kd.V_below (Kd.V_elderB (by exact pV HO0_0.out) gb303 (Nat.le_of_eq hg.symm)) hb); have n1_ := Aside0.mk (below_step (by exact pB HB.out) hb); have n2_ := Aside0.mk (hbox); have n3_ := Aside0.mk ((by rw [hg]; exact (below_size (by exact pB HB.out)) : w.heap.size ≤ gb303)); have n4_ := Aside0.mk ((by rw [hg]; exact (below_size (by exact pB HB.out)) : w.heap.size ≤ gb303)); clear HO0_0; clear HB; have HO0_0 := n0_; have HB := n1_; have BK303 := n2_; have GW303 := n3_; have GE303 := n4_; clear n0_ n1_ n2_ n3_ n4_; clear hb hbox hg) | ((with_reducible refine gate_dst (N := 4) rfl ?_); refine box_event ?hg (N := 4) ?hd (cs := #[.slice none 0 0, .slice none 0 0]) (t := 24) ?hr ?_; (case hd => rfl); (case hg => rfl); (case hr => first | (go_simp; done) | (go_simp; rfl)); intro gb304 hg w12 hbox hb; have n0_ := Aside0.mk (Kd.V_below (Kd.V_elderB (by exact pV HO0_0.out) gb304 (Nat.le_of_eq hg.symm)) hb); have n1_ := Aside0.mk (blk_below (g := gb303) (o := .cells #[.slice A0_0 l0_0.length c0_0, .slice A0_1 l0_1.length c0_1] 24 (0, 0)) (by exact pK BK303.out) hb); have n2_ := Aside0.mk (below_step (by exact pB HB.out) hb); have n3_ := Aside0.mk (hbox); have n4_ := Aside0.mk ((by rw [hg]; exact (below_size (by exact pB HB.out)) : w.heap.size ≤ gb304)); have n5_ := Aside0.mk ((by rw [hg]; exact (below_size (by exact pB HB.out)) : w.heap.size ≤ gb304)); have n6_ := Aside0.mk ((by rw [hg]; exact Nat.ne_of_lt (blk_lt (g := gb303) (o := .cells #[.slice A0_0 l0_0.length c0_0, .slice A0_1 l0_1.length c0_1] 24 (0, 0)) (by exact pK BK303.out)) : gb303 ≠ gb304)); have n7_ := Aside0.mk ((by rw [hg]; exact Nat.ne_of_gt (blk_lt (g := gb303) (o := .cells #[.slice A0_0 l0_0.length c0_0, .slice A0_1 l0_1.length c0_1] 24 (0, 0)) (by exact pK BK303.out)) : gb304 ≠ gb303)); clear HO0_0; clear BK303; clear HB; have HO0_0 := n0_; have BK303 := n1_; have HB := n2_; have BK304 := n3_; have GW304 := n4_; have GE304 := n5_; have NB303_304 := n6_; have NB304_303 := n7_; clear n0_ n1_ n2_ n3_ n4_ n5_ n6_ n7_; clear hb hbox hg; have hnb13 := NB303_304.out; have hnc13 := NB304_303.out; have hcz14_0 : w12.cell? ⟨gb303, 0, none⟩ = some (.slice A0_0 l0_0.length c0_0) := (blk_cell BK303.out 0).trans rfl; have hcz14_1 : w12.cell? ⟨gb303, 1, none⟩ = some (.slice A0_1 l0_1.length c0_1) := (blk_cell BK303.out 1).trans rfl; have hfz14_0 := blk_frozen BK303.out 0; have hfz14_1 := blk_frozen BK303.out 1))
    have n0_ := Aside0.mk (Kd.V_drew HO0_0.out)
    have n1_ := Aside0.mk (blk_drew BK303.out)
    have n2_ := Aside0.mk (blk_drew BK304.out)
    have n3_ := Aside0.mk (below_drew1 HB.out)
    clear HO0_0
    clear BK303
    clear BK304
    clear HB
    have HO0_0 := n0_
    have BK303 := n1_
    have BK304 := n2_
    have HB := n3_
    clear n0_ n1_ n2_ n3_
    refine start_ (n := 11) (S := fun w' => w'.cell? ⟨gb303, 0, none⟩ = some (.slice A0_0 l0_0.length c0_0) ∧ w'.cell? ⟨gb303, 1, none⟩ = some (.slice A0_1 l0_1.length c0_1)) (ds := []) #[false, false, false, false, false, false, false, false, false, false, false] (by kernel_rfl) rfl rfl ⟨(blk_cell BK303.out 0).trans rfl, (blk_cell BK303.out 1).trans rfl⟩ (fun hHeld => ?_); refine with_tabW customsref33_Write.tab3 customsref33_Write.bits3 (fun HT_ HW_ => ?_)
    generalize w12.drew = w15 at HO0_0 BK303 BK304 HB hHeld ⊢
    refine pure_ (i := 0) (N := some 18) (v := ?_) (a' := ?_) #[true, false, false, false, false, false, false, false, false, false, false] rfl rfl (any_of HT_.out (by kernel_rfl)) (fun _ _ _ h => h) (Or.inl ⟨by rfl, ?_⟩) ?_ ?_
    rotate_left
    · intro w'
      go_simp
      with_reducible rfl
    rotate_left
    · simp only [Act.put, List.setIfInBounds_toArray, List.set_cons_zero, List.set_cons_succ, i64_w, i32_w]
      rfl
    refine pure_ (i := 3) (N := some 21) (v := ?_) (a' := ?_) #[true, false, false, true, false, false, false, false, false, false, false] rfl rfl (any_of HT_.out (by kernel_rfl)) (fun _ _ _ h => h) (Or.inl ⟨by rfl, ?_⟩) ?_ ?_
    rotate_left
    · intro w'
      go_simp
      with_reducible rfl
    rotate_left
    · simp only [Act.put, List.setIfInBounds_toArray, List.set_cons_zero, List.set_cons_succ, i64_w, i32_w]
      rfl
    refine pure_ (i := 6) (N := some 24) (v := ?_) (a' := ?_) #[true, false, false, true, false, false, true, false, false, false, false] rfl rfl (any_of HT_.out (by kernel_rfl)) (fun _ _ _ h => h) (Or.inl ⟨by rfl, ?_⟩) ?_ ?_
    rotate_left
    · intro w'
      go_simp
      with_reducible rfl
    rotate_left
    · simp only [Act.put, List.setIfInBounds_toArray, List.set_cons_zero, List.set_cons_succ, i64_w, i32_w]
      rfl
    refine take_ (i := 1) (N := some 19) (v := ?_) (a' := ?_) #[true, true, false, true, false, false, true, false, false, false, false] rfl rfl (take_ofW HT_.out HW_.out (by kernel_rfl)) (fun _ _ _ h => h) (Or.inl ⟨by rfl, ?_⟩) hHeld ?_ ?_
    rotate_left
    · rintro w' ⟨s0, s1⟩
      go_simp
      with_reducible rfl
    rotate_left
    · simp only [Act.put, List.setIfInBounds_toArray, List.set_cons_zero, List.set_cons_succ, i64_w, i32_w]
      rfl
    refine take_ (i := 4) (N := some 22) (v := ?_) (a' := ?_) #[true, true, false, true, true, false, true, false, false, false, false] rfl rfl (take_ofW HT_.out HW_.out (by kernel_rfl)) (fun _ _ _ h => h) (Or.inl ⟨by rfl, ?_⟩) hHeld ?_ ?_
    rotate_left
    · rintro w' ⟨s0, s1⟩
      go_simp
      with_reducible rfl
    rotate_left
    · simp only [Act.put, List.setIfInBounds_toArray, List.set_cons_zero, List.set_cons_succ, i64_w, i32_w]
      rfl
    refine one_ (i := 2) (N := some 20) #[true, true, true, true, true, false, true, false, false, false, false] rfl rfl (one_of HT_.out (by kernel_rfl)) (by decide) (fun K hK => ?_)
    refine Kd.R_lit_step (Kd.int .u8) _ 5 ?hg (N := 20) ?hd (xs := ([] : List Int)) (inner := []) (ok := fun _ => True) (okp := fun _ => True) ?hr ?hp (fun _ hk => hk) trivial (Below.refl _ _) (Nat.le_refl _) (by simp) ?_; (case hd => rfl); (case hg => rfl); (case hr => first | (go_simp; done) | (go_simp; rfl)); (case hp => exact (Reps.none _ _))
    intro v306 w16 ho17 hb hg_ hnew_
    clear hg_ hnew_
    (first | rw [← Ny305.out] at ho17 | (simp only [Int.reduceToNat] at ho17; rw [← Ny305.out] at ho17))
    have n0_ := Aside0.mk (Kd.V_elder' (by exact pV HO0_0.out) (Kd.R_base ho17) hb)
    have n1_ := Aside0.mk (Kd.R_lower (Kd.R_newM (M := fun k_ => (w.heap.size ≤ k_)) ho17 (below_size (by exact pB HB.out)) (fun k_ h_ => h_)) (below_size (by exact pB HB.out)))
    have n2_ := Aside0.mk (blk_below (g := gb303) (o := .cells #[.slice A0_0 l0_0.length c0_0, .slice A0_1 l0_1.length c0_1] 24 (0, 0)) (by exact pK BK303.out) hb)
    have n3_ := Aside0.mk (blk_below (g := gb304) (o := .cells #[.slice none 0 0, .slice none 0 0] 24 (0, 0)) (by exact pK BK304.out) hb)
    have n4_ := Aside0.mk (below_step (by exact pB HB.out) hb)
    clear HO0_0
    clear BK303
    clear BK304
    clear HB
    have HO0_0 := n0_
    have HO307 := n1_
    have BK303 := n2_
    have BK304 := n3_
    have HB := n4_
    clear n0_ n1_ n2_ n3_ n4_
    clear hb ho17
    refine hK.out _ _ ⟨(blk_cell BK303.out 0).trans rfl, (blk_cell BK303.out 1).trans rfl⟩ (fun hHeld => ?_)
    clear hK K
    refine norm_ (a' := ?_) ?_ ?_
    rotate_left
    · show Act.put _ (some 20) _ = _
      simp only [Act.put, List.setIfInBounds_toArray, List.set_cons_zero, List.set_cons_succ, i64_w, i32_w]
      rfl
    refine one_ (i := 5) (N := some 23) #[true, true, true, true, true, true, true, false, false, false, false] rfl rfl (one_of HT_.out (by kernel_rfl)) (by decide) (fun K hK => ?_)
    refine Kd.R_append_rows_step (Kd.int .u8) (w0 := w) w.heap.size (by rfl) (.tmp 20) (.tmp 22) 22 5 (.int .u8 0) 1 rfl Try.underlying22 info5 rfl (by decide) (by omega) v306 y305 l0_1 _ _ _ (fun k_ => (w.heap.size ≤ k_)) (fun _ => False) rfl rfl ?aO ?aR (fun _ _ h => h) (fun _ h => h.elim) ?aF ?aB ?aS ?aL ?_
    (case aR => exact pC (Kd.C_below HR0_1.out HB.out))
    (case aB => exact (by exact pB HB.out))
    (case aF => exact (fun k_ hk => (Nat.le_trans (below_size (by exact pB HB.out)) hk)))
    (case aO => exact (by exact pR (Kd.R_mono HO307.out (fun _ hk => hk.1))))
    (case aS => exact (below_size (by exact pB HB.out)))
    (case aL => have := LMc9.out; omega)
    intro v309 w18 ho hb hg hat
    rw [← Ny308.out] at ho
    have n0_ := Aside0.mk (Kd.V_afterv (ok := (fun k_ => (P0_0_ k_ ∨ w.heap.size ≤ k_) ∧ k_ ≠ gb303 ∧ k_ ≠ gb304)) (by exact pV (Kd.V_mono HO0_0.out (fun _ hk => ⟨⟨hk.1.1.1, ⟨hk.1.1.2, hk.1.2⟩⟩, hk.2⟩))) hg hat)
    have n1_ := Aside0.mk (blk_grown (g := gb303) (o := .cells #[.slice A0_0 l0_0.length c0_0, .slice A0_1 l0_1.length c0_1] 24 (0, 0)) (by exact pK BK303.out) hg (Kd.R_ne HO307.out BK303.out (by decide)))
    have n2_ := Aside0.mk (blk_grown (g := gb304) (o := .cells #[.slice none 0 0, .slice none 0 0] 24 (0, 0)) (by exact pK BK304.out) hg (Kd.R_ne HO307.out BK304.out (by decide)))
    have n3_ := Aside0.mk (hb)
    have n4_ := Aside0.mk (ho)
    clear HO0_0
    clear BK303
    clear BK304
    clear HB
    clear HO307
    have HO0_0 := n0_
    have BK303 := n1_
    have BK304 := n2_
    have HB := n3_
    have HO310 := n4_
    clear n0_ n1_ n2_ n3_ n4_
    clear ho hb hg hat
    refine hK.out _ _ ⟨(blk_cell BK303.out 0).trans rfl, (blk_cell BK303.out 1).trans rfl⟩ (fun hHeld => ?_)
    clear hK K
    refine norm_ (a' := ?_) ?_ ?_
    rotate_left
    · show Act.put _ (some 23) _ = _
      simp only [Act.put, List.setIfInBounds_toArray, List.set_cons_zero, List.set_cons_succ, i64_w, i32_w]
      rfl
    refine one_ (i := 7) (N := some 25) #[true, true, true, true, true, true, true, true, false, false, false] rfl rfl (one_of HT_.out (by kernel_rfl)) (by decide) (fun K hK => ?_)
    refine Kd.R_append_rows_step (Kd.int .u8) (w0 := w) w.heap.size (by rfl) (.tmp 23) (.tmp 24) 22 5 (.int .u8 0) 1 rfl Try.underlying22 info5 rfl (by decide) (by omega) v309 y308 l1 _ _ _ (fun k_ => (w.heap.size ≤ k_)) (fun _ => False) rfl rfl ?aO ?aR (fun _ _ h => h) (fun _ h => h.elim) ?aF ?aB ?aS ?aL ?_
    (case aR => exact pC (Kd.C_below HR1.out HB.out))
    (case aB => exact (by exact pB HB.out))
    (case aF => exact (fun k_ hk => (Nat.le_trans (below_size (by exact pB HB.out)) hk)))
    (case aO => exact (by exact pR HO310.out))
    (case aS => exact (below_size (by exact pB HB.out)))
    (case aL => have := LMc10.out; omega)
    intro v312 w19 ho hb hg hat
    rw [← Ny311.out] at ho
    have n0_ := Aside0.mk (Kd.V_afterv (ok := (fun k_ => (P0_0_ k_ ∨ w.heap.size ≤ k_) ∧ k_ ≠ gb303 ∧ k_ ≠ gb304)) (by exact pV HO0_0.out) hg hat)
    have n1_ := Aside0.mk (blk_grown (g := gb303) (o := .cells #[.slice A0_0 l0_0.length c0_0, .slice A0_1 l0_1.length c0_1] 24 (0, 0)) (by exact pK BK303.out) hg (Kd.R_ne HO310.out BK303.out (by decide)))
    have n2_ := Aside0.mk (blk_grown (g := gb304) (o := .cells #[.slice none 0 0, .slice none 0 0] 24 (0, 0)) (by exact pK BK304.out) hg (Kd.R_ne HO310.out BK304.out (by decide)))
    have n3_ := Aside0.mk (hb)
    have n4_ := Aside0.mk (ho)
    clear HO0_0
    clear BK303
    clear BK304
    clear HB
    clear HO310
    have HO0_0 := n0_
    have BK303 := n1_
    have BK304 := n2_
    have HB := n3_
    have HO313 := n4_
    clear n0_ n1_ n2_ n3_ n4_
    clear ho hb hg hat
    obtain ⟨Ao20, co20, eo20⟩ := Kd.R_slice HO313.out
    (first | subst eo20 | (injection eo20 with f1_ f2_ f3_; have f4_ := f1_.symm; have f5_ := f3_.symm; clear f1_ f2_ f3_; subst f4_; subst f5_))
    refine hK.out _ _ ⟨(blk_cell BK303.out 0).trans rfl, (blk_cell BK303.out 1).trans rfl⟩ (fun hHeld => ?_)
    clear hK K
    refine norm_ (a' := ?_) ?_ ?_
    rotate_left
    · show Act.put _ (some 25) _ = _
      simp only [Act.put, List.setIfInBounds_toArray, List.set_cons_zero, List.set_cons_succ, i64_w, i32_w]
      rfl
    refine pure_ (i := 8) (N := some 26) (v := ?_) (a' := ?_) #[true, true, true, true, true, true, true, true, true, false, false] rfl rfl (any_of HT_.out (by kernel_rfl)) (fun _ _ _ h => h) (Or.inl ⟨by rfl, ?_⟩) ?_ ?_
    rotate_left
    · intro w'
      go_simp
      with_reducible rfl
    rotate_left
    · simp only [Act.put, List.setIfInBounds_toArray, List.set_cons_zero, List.set_cons_succ, i64_w, i32_w]
      rfl
    refine one_ (i := 9) (N := none) #[true, true, true, true, true, true, true, true, true, true, false] rfl rfl (one_of HT_.out (by kernel_rfl)) (by decide) (fun K hK => ?_)
    have hs21 : w19.cell? ⟨gb304, 0, none⟩ = some (.slice none 0 0) := (blk_cell BK304.out 0).trans rfl
    have hfs21 := blk_frozen BK304.out 0
    have hns21_0 := NB303_304.out
    have hms21_0 := NB304_303.out
    have hs22 : w19.cell? ⟨gb304, 1, none⟩ = some (.slice none 0 0) := (blk_cell BK304.out 1).trans rfl
    have hfs22 := blk_frozen BK304.out 1
    have hns22_0 := NB303_304.out
    have hms22_0 := NB304_303.out
    refine skip_ (w1 := ?_) (by rfl) rfl ?_ ?_
    rotate_left
    · go_simp
      rfl
    refine hK.out _ _ ⟨((cell_far (p := ⟨gb304, _, none⟩) NB303_304.out _).trans (((cell_far (p := ⟨gb304, _, none⟩) NB303_304.out _).trans (hHeld.1)))), ((cell_far (p := ⟨gb304, _, none⟩) NB303_304.out _).trans (((cell_far (p := ⟨gb304, _, none⟩) NB303_304.out _).trans (hHeld.2))))⟩ (fun hHeld => ?_)
    clear hK K
    refine pure_ (i := 10) (N := some 5) (v := ?_) (a' := ?_) #[true, true, true, true, true, true, true, true, true, true, true] rfl rfl (any_of HT_.out (by kernel_rfl)) (fun _ _ _ h => h) (Or.inl ⟨by rfl, ?_⟩) ?_ ?_
    rotate_left
    · intro w'
      go_simp
      with_reducible rfl
    rotate_left
    · simp only [Act.put, List.setIfInBounds_toArray, List.set_cons_zero, List.set_cons_succ, i64_w, i32_w]
      rfl
    refine done_ (done_of HT_.out (by kernel_rfl)) ?_
    try go_wp2
    refine bodyPost_ret (results_ct rfl _ _ gb304 24 #[.slice A0_0 l0_0.length c0_0, .slice Ao20 y311.length co20] (0, 0) _ rfl (by (with_reducible repeat (first | refine blk_drewN ?_ _ | refine blk_drew ?_ | refine blk_alloc ?_ _)); refine blk_put (cs := #[.slice A0_0 l0_0.length c0_0, .slice none 0 0]) ?_ 1 _ rfl; (with_reducible repeat (first | refine blk_drewN ?_ _ | refine blk_drew ?_ | refine blk_alloc ?_ _)); refine blk_put (cs := #[.slice none 0 0, .slice none 0 0]) ?_ 0 _ rfl; (with_reducible repeat (first | refine blk_drewN ?_ _ | refine blk_drew ?_ | refine blk_alloc ?_ _)); exact BK304.out) Try.underlying24 rfl (by kernel_rfl)) rfl ?_
    exact ⟨_, _, by first | rfl | (simp [errW_none, errW_some] <;> rfl) | (simp [*, errW_none, errW_some] <;> rfl), by (with_reducible repeat (first | apply Kd.V_alloc | apply Kd.V_drewN | apply Kd.V_drew)); exact Kd.V_mono (Kd.V_far (p := ⟨gb304, 1, none⟩) (Kd.V_far (p := ⟨gb304, 0, none⟩) (Kd.V_mono HO0_0.out (fun k_ hk => (⟨hk, hk.1.2.2⟩ : _ ∧ k_ ≠ gb304))) (fun _ hk => hk.2) (.slice A0_0 l0_0.length c0_0)) (fun _ hk => hk.2) (.slice Ao20 y311.length co20)) (fun _ hk => ⟨hk.1.1.1, hk.1.2⟩), by (with_reducible repeat (first | apply Kd.R_alloc | apply Kd.R_drewN | apply Kd.R_drew)); exact Kd.R_mono (Kd.R_far (p := ⟨gb304, 1, none⟩) (Kd.R_far (p := ⟨gb304, 0, none⟩) (Kd.R_types HO313.out BK304.out (by decide)) (fun _ hk => hk.2) (.slice A0_0 l0_0.length c0_0)) (fun _ hk => hk.2) (.slice Ao20 y311.length co20)) (fun _ hk => hk.1), by repeat (first | (with_reducible first | exact HB.out | apply below_alloc | apply pw_below_drewN | apply below_drew1 | refine below_set ?_ GE303.out | refine below_set ?_ GE304.out) | exact HB.out)⟩

end Go.Proofs.Ythnlepmfjhhgfaa.PJournalOpen
