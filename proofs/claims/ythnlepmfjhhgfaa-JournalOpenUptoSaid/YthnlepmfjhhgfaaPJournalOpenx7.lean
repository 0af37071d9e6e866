-- Printed by a patched copy of the kit's printer (wip/prt); nothing here is trusted, Lean checks it.
import Derived.Test.YthnlepmfjhhgfaaPJournalOpenx0
import Derived.Test.YthnlepmfjhhgfaaPJournalOpenx1
import Derived.Test.YthnlepmfjhhgfaaPJournalOpenx5
import Derived.Test.YthnlepmfjhhgfaaPJournalOpenx6
namespace Go.Proofs.Ythnlepmfjhhgfaa.PJournalOpen
open Go.RowKit Go.Proofs.YthnlepmfjhhgfaaW.PrintWords Go.Proofs.YthnlepmfjhhgfaaW.PrintLast Go.Proofs.YthnlepmfjhhgfaaW.PrintMore
attribute [local go_sem] max2_int min2_int max_two min_two max_three min_three max_four min_four   -- for this text's walks alone
set_option linter.unusedVariables false
set_option linter.unusedSimpArgs false

/-! ### customsref33_Open: function 39 -/
def customsref33_Open.l0 : Nat → List (S43) → List Int → Bool → List (List Int) → Int → List Int → List Int → Option (List Int × List Int × List Int × Bool × (List (List Int)))
  | 0, _, _, _, _, _, _, _ => none
  | k + 1, x6, x8, x9, x10, x11, x394000, x394001 => if x11 < (x6.length : Int) then (if 0 ≤ x11 then (if ((rd_T43 x6 x11).f0) = 2 then (customsref33_Open.l0 k x6 ((rd_T43 x6 x11).f1) true ([] : List (List Int)) (wrap64 (x11 + 1)) x394000 x394001) else (if x10.length < 5864062014805 then (customsref33_Open.l0 k x6 x8 x9 (x10 ++ [(rd_T43 x6 x11).f1]) (wrap64 (x11 + 1)) x394000 x394001) else (none))) else (none)) else (some (x394000, x394001, x8, x9, x10))
def customsref33_Open.f (k : Nat) (l0_0 : List Int) (l0_1 : List Int) : Option (List Int × List Int × List Int × Bool × (List (List Int))) := (customsref33_Read.f l0_0 l0_1).bind fun t395 => ((customsref33_Scan.f k t395).bind fun bt398 => ((customsref33_Truncate.f l0_0 l0_1 bt398.2).bind fun bt402 => (customsref33_Open.l0 k bt398.1 ([] : List Int) false ([] : List (List Int)) 0 bt402.1 bt402.2.1)))
theorem customsref33_Open.mono_l : ∀ k, (∀ y0 y1 y2 y3 y4 y5 y6, LeO (customsref33_Open.l0 k y0 y1 y2 y3 y4 y5 y6) (customsref33_Open.l0 (k + 1) y0 y1 y2 y3 y4 y5 y6))
  | 0 => fun _ _ _ _ _ _ _ r h => by simp [customsref33_Open.l0] at h
  | k + 1 => by
    have ih0 := customsref33_Open.mono_l k
    · intro y0 y1 y2 y3 y4 y5 y6
      unfold customsref33_Open.l0
      repeat' first
      | (with_reducible exact ih0 _ _ _ _ _ _ _)
      | (with_reducible exact customsref33_Scan.mono _ _)
      | (with_reducible exact LeO.refl _)
      | (with_reducible exact LeO.none _)
      | (with_reducible refine LeO.ite ?_ ?_)
      | (with_reducible refine LeO.bind ?_ (fun _ => ?_))
      | exact ih0 _ _ _ _ _ _ _
      | exact customsref33_Scan.mono _ _
      | exact LeO.none _
      | refine LeO.ite ?_ ?_
      | refine LeO.bind ?_ (fun _ => ?_)
theorem customsref33_Open.mono : ∀ a0 a1 k, LeO (customsref33_Open.f k a0 a1) (customsref33_Open.f (k + 1) a0 a1) := by
  intro a0 a1 k
  have ih0 := customsref33_Open.mono_l k
  unfold customsref33_Open.f
  repeat' first
      | (with_reducible exact ih0 _ _ _ _ _ _ _)
      | (with_reducible exact customsref33_Scan.mono _ _)
      | (with_reducible exact LeO.refl _)
      | (with_reducible exact LeO.none _)
      | (with_reducible refine LeO.ite ?_ ?_)
      | (with_reducible refine LeO.bind ?_ (fun _ => ?_))
      | exact ih0 _ _ _ _ _ _ _
      | exact customsref33_Scan.mono _ _
      | exact LeO.none _
      | refine LeO.ite ?_ ?_
      | refine LeO.bind ?_ (fun _ => ?_)
set_option maxHeartbeats 8000000 in
set_option maxRecDepth 100000 in
theorem customsref33_Open.calls (k : Nat) (A0_0 : Option Addr) (c0_0 : Nat) (l0_0 : List Int) (A0_1 : Option Addr) (c0_1 : Nat) (l0_1 : List Int) (r1 : List Int) (r2 : List Int) (r3 : List Int) (r4 : Bool) (r5 : List (List Int)) (w : World) (hr0_0 : Kd.C (Kd.int .u8) w A0_0 l0_0.length l0_0) (hc0_0 : l0_0.length ≤ c0_0) (hr0_1 : Kd.C (Kd.int .u8) w A0_1 l0_1.length l0_1) (hc0_1 : l0_1.length ≤ c0_1) (h : customsref33_Open.f k l0_0 l0_1 = some (r1, r2, r3, r4, r5)) :
    Calls Try.prog 39 #[.agg #[.slice A0_0 l0_0.length c0_0, .slice A0_1 l0_1.length c0_1]] w fun e w' => ∃ v0_ v1_ v2_ v4_ : Value, e = .returned (.tuple #[.agg #[v0_, v1_], v2_, .bool r4, v4_]) ∧ Kd.R (Kd.int .u8) 5 w' w.heap.size (fun k_ => (w.heap.size ≤ k_) ∧ some k_ ≠ (v1_ : Value).ownBlock) v0_ r1 ∧ Kd.R (Kd.int .u8) 5 w' w.heap.size (fun k_ => (w.heap.size ≤ k_) ∧ some k_ ≠ (v0_ : Value).ownBlock) v1_ r2 ∧ Kd.V (Kd.int .u8) 5 w' w.heap.size (fun k_ => (w.heap.size ≤ k_) ∧ some k_ ≠ (v0_ : Value).ownBlock ∧ some k_ ≠ (v1_ : Value).ownBlock ∧ some k_ ≠ (v4_ : Value).ownBlock) v2_ r3 ∧ Kd.N (Kd.slice 5 (Kd.int .u8)) 22 w' w.heap.size (fun k_ => (w.heap.size ≤ k_) ∧ some k_ ≠ (v0_ : Value).ownBlock ∧ some k_ ≠ (v1_ : Value).ownBlock) v4_ r5 ∧ Below w.heap.size w w' := by
  have hu24 := Try.underlying24
  have HR0_0 := Aside0.mk hr0_0
  have HC0_0 := Aside0.mk hc0_0
  clear hr0_0 hc0_0
  have HR0_1 := Aside0.mk hr0_1
  have HC0_1 := Aside0.mk hc0_1
  clear hr0_1 hc0_1
  have HB := Aside0.mk (Below.refl w.heap.size w)
  have H : ((customsref33_Read.f l0_0 l0_1).bind fun t395 => ((customsref33_Scan.f k t395).bind fun bt398 => ((customsref33_Truncate.f l0_0 l0_1 bt398.2).bind fun bt402 => (customsref33_Open.l0 k bt398.1 ([] : List Int) false ([] : List (List Int)) 0 bt402.1 bt402.2.1)))) = some (r1, r2, r3, r4, r5) := h
  clear h
  replace H := Option.bind_eq_some_iff.mp H
  obtain ⟨t395, A20, H⟩ := H
  replace H : ((customsref33_Scan.f k t395).bind fun bt398 => ((customsref33_Truncate.f l0_0 l0_1 bt398.2).bind fun bt402 => (customsref33_Open.l0 k bt398.1 ([] : List Int) false ([] : List (List Int)) 0 bt402.1 bt402.2.1))) = some (r1, r2, r3, r4, r5) := H
  have A2 := Aside0.mk A20
  clear A20
  replace H := Option.bind_eq_some_iff.mp H
  obtain ⟨⟨t398, t399⟩, A30, H⟩ := H
  replace H : ((customsref33_Truncate.f l0_0 l0_1 t399).bind fun bt402 => (customsref33_Open.l0 k t398 ([] : List Int) false ([] : List (List Int)) 0 bt402.1 bt402.2.1)) = some (r1, r2, r3, r4, r5) := H
  have A3 := Aside0.mk A30
  clear A30
  replace H := Option.bind_eq_some_iff.mp H
  obtain ⟨⟨t402, t405, t408⟩, A40, H⟩ := H
  replace H : (customsref33_Open.l0 k t398 ([] : List Int) false ([] : List (List Int)) 0 t402 t405) = some (r1, r2, r3, r4, r5) := H
  have A4 := Aside0.mk A40
  clear A40
  have H' := Aside0.mk H
  clear H
  go_enter Try.func39, Try.ntmps39
  go_wp2_with (first | ((with_reducible refine gate_dst (N := 1) rfl ?_); refine box_event ?hg (N := 1) ?hd (cs := #[.slice A0_0 l0_0.length c0_0, .slice A0_1 l0_1.length c0_1]) (t := 24) ?hr ?_; (case hd => rfl); (case hg => rfl); (case hr => first | (go_simp; done) | (go_simp; rfl)); intro gb393 hg w5 hbox hb; have n0_ := Aside0.mk (below_step (by exact pB HB.out) hb); have n1_ := Aside0.mk (hbox); have n2_ := Aside0.mk ((by rw [hg]; exact (below_size (by exact pB HB.out)) : w.heap.size ≤ gb393)); have n3_ := Aside0.mk ((by rw [hg]; exact (below_size (by exact pB HB.out)) : w.heap.size ≤ gb393)); clear HB; have HB := n0_; have BK393 := n1_; have GW393 := n2_; have GE393 := n3_; clear n0_ n1_ n2_ n3_; clear hb hbox hg) | ((with_reducible refine gate_dst (N := 2) rfl ?_); refine box_event ?hg (N := 2) ?hd (cs := #[.slice none 0 0, .slice none 0 0]) (t := 24) ?hr ?_; (case hd => rfl); (case hg => rfl); (case hr => first | (go_simp; done) | (go_simp; rfl)); intro gb394 hg w6 hbox hb; have n0_ := Aside0.mk (blk_below (g := gb393) (o := .cells #[.slice A0_0 l0_0.length c0_0, .slice A0_1 l0_1.length c0_1] 24 (0, 0)) (by exact pK BK393.out) hb); have n1_ := Aside0.mk (below_step (by exact pB HB.out) hb); have n2_ := Aside0.mk (hbox); have n3_ := Aside0.mk ((by rw [hg]; exact (below_size (by exact pB HB.out)) : w.heap.size ≤ gb394)); have n4_ := Aside0.mk ((by rw [hg]; exact (below_size (by exact pB HB.out)) : w.heap.size ≤ gb394)); have n5_ := Aside0.mk ((by rw [hg]; exact Nat.ne_of_lt (blk_lt (g := gb393) (o := .cells #[.slice A0_0 l0_0.length c0_0, .slice A0_1 l0_1.length c0_1] 24 (0, 0)) (by exact pK BK393.out)) : gb393 ≠ gb394)); have n6_ := Aside0.mk ((by rw [hg]; exact Nat.ne_of_gt (blk_lt (g := gb393) (o := .cells #[.slice A0_0 l0_0.length c0_0, .slice A0_1 l0_1.length c0_1] 24 (0, 0)) (by exact pK BK393.out)) : gb394 ≠ gb393)); clear BK393; clear HB; have BK393 := n0_; have HB := n1_; have BK394 := n2_; have GW394 := n3_; have GE394 := n4_; have NB393_394 := n5_; have NB394_393 := n6_; clear n0_ n1_ n2_ n3_ n4_ n5_ n6_; clear hb hbox hg; have hnb7 := NB393_394.out; have hnc7 := NB394_393.out; have hcz8_0 : w6.cell? ⟨gb393, 0, none⟩ = some (.slice A0_0 l0_0.length c0_0) := (blk_cell BK393.out 0).trans rfl; have hcz8_1 : w6.cell? ⟨gb393, 1, none⟩ = some (.slice A0_1 l0_1.length c0_1) := (blk_cell BK393.out 1).trans rfl; have hfz8_0 := blk_frozen BK393.out 0; have hfz8_1 := blk_frozen BK393.out 1) | ((with_reducible refine gate_callee (f := 19) rfl ?_); refine goesL_ (some 14) rfl rfl Try.func19 (by kernel_rfl) rfl #[.agg #[.slice A0_0 l0_0.length c0_0, .slice A0_1 l0_1.length c0_1]] rfl (by (try simp only [List.map_toArray, List.map_cons, List.map_nil]); first | done | rfl | (simp only [List.length_drop, List.length_take]; rfl)) ?_; (with_reducible refine (customsref33_Read.calls _ _ l0_0 _ _ l0_1 t395 _ ?side1 ?side2 ?side3 ?side4 A2.out).mono ?_); (case side1 => exact pC (Kd.C_below HR0_0.out HB.out)); (case side2 => exact HC0_0.out); (case side3 => exact pC (Kd.C_below HR0_1.out HB.out)); (case side4 => exact HC0_1.out); rintro e w9 ⟨v396, rfl, ho0, hb⟩; refine ⟨_, rfl, ?_⟩; have n0_ := Aside0.mk (Kd.R_lower (Kd.R_newM (M := fun k_ => (w.heap.size ≤ k_)) ho0 (below_size (by exact pB HB.out)) (fun k_ h_ => h_)) (below_size (by exact pB HB.out))); have n1_ := Aside0.mk (blk_below (g := gb393) (o := .cells #[.slice A0_0 l0_0.length c0_0, .slice A0_1 l0_1.length c0_1] 24 (0, 0)) (by exact pK BK393.out) hb); have n2_ := Aside0.mk (blk_below (g := gb394) (o := .cells #[.slice none 0 0, .slice none 0 0] 24 (0, 0)) (by exact pK BK394.out) hb); have n3_ := Aside0.mk (below_step (by exact pB HB.out) hb); clear BK393; clear BK394; clear HB; have HO397 := n0_; have BK393 := n1_; have BK394 := n2_; have HB := n3_; clear n0_ n1_ n2_ n3_; (try clear hb); (try clear hb2); (try clear hk); (try clear hi); (try clear ho0); obtain ⟨Ao10, co10, eo10⟩ := Kd.R_slice HO397.out; subst eo10) | ((with_reducible refine gate_callee (f := 31) rfl ?_); refine goesL_ (some 15) rfl rfl Try.func31 (by kernel_rfl) rfl #[.slice Ao10 t395.length co10] rfl (by (try simp only [List.map_toArray, List.map_cons, List.map_nil]); first | done | rfl | (simp only [List.length_drop, List.length_take]; rfl)) ?_; (with_reducible refine (customsref33_Scan.calls k _ _ t395 t398 t399 _ ?side1 ?side2 A3.out).mono ?_); (case side1 => exact pC (Kd.R_reads' HO397.out).2.2); (case side2 => exact (Kd.R_reads' HO397.out).2.1); rintro e w11 ⟨v400, rfl, ho0, hb⟩; refine ⟨_, rfl, ?_⟩; have n0_ := Aside0.mk (Kd.R_below (by exact pR HO397.out) hb); have n1_ := Aside0.mk (Kd.N_lower (Kd.N_mono (ok' := fun k_ => (w.heap.size ≤ k_) ∧ some k_ ≠ (.slice Ao10 t395.length co10 : Value).ownBlock ∧ k_ ≠ gb393 ∧ k_ ≠ gb394) (Kd.S_N (Kd.S_bound ho0)) (fun k_ hk_ => ⟨(Nat.le_trans (below_size (by exact pB HB.out)) hk_.2.1), (Kd.fresh' (Kd.R_lt (by exact pR HO397.out)) k_ hk_.2.1), (Kd.freshB (g := gb393) (o := .cells #[.slice A0_0 l0_0.length c0_0, .slice A0_1 l0_1.length c0_1] 24 (0, 0)) (by exact pK BK393.out) k_ hk_.2.1), (Kd.freshB (g := gb394) (o := .cells #[.slice none 0 0, .slice none 0 0] 24 (0, 0)) (by exact pK BK394.out) k_ hk_.2.1)⟩)) (below_size (by exact pB HB.out))); have n2_ := Aside0.mk (blk_below (g := gb393) (o := .cells #[.slice A0_0 l0_0.length c0_0, .slice A0_1 l0_1.length c0_1] 24 (0, 0)) (by exact pK BK393.out) hb); have n3_ := Aside0.mk (blk_below (g := gb394) (o := .cells #[.slice none 0 0, .slice none 0 0] 24 (0, 0)) (by exact pK BK394.out) hb); have n4_ := Aside0.mk (below_step (by exact pB HB.out) hb); clear HO397; clear BK393; clear BK394; clear HB; have HO397 := n0_; have HO401 := n1_; have BK393 := n2_; have BK394 := n3_; have HB := n4_; clear n0_ n1_ n2_ n3_ n4_; (try clear hb); (try clear hb2); (try clear hk); (try clear hi); (try clear ho0); have hcz12_0 : w11.cell? ⟨gb393, 0, none⟩ = some (.slice A0_0 l0_0.length c0_0) := (blk_cell BK393.out 0).trans rfl; have hcz12_1 : w11.cell? ⟨gb393, 1, none⟩ = some (.slice A0_1 l0_1.length c0_1) := (blk_cell BK393.out 1).trans rfl; have hfz12_0 := blk_frozen BK393.out 0; have hfz12_1 := blk_frozen BK393.out 1) | ((with_reducible refine gate_callee (f := 25) rfl ?_); refine goesL_ (some 21) rfl rfl Try.func25 (by kernel_rfl) rfl #[.agg #[.slice A0_0 l0_0.length c0_0, .slice A0_1 l0_1.length c0_1], .int .i64 t399] rfl (by (try simp only [List.map_toArray, List.map_cons, List.map_nil]); first | done | rfl | (simp only [List.length_drop, List.length_take]; rfl)) ?_; (with_reducible refine (customsref33_Truncate.calls _ _ l0_0 _ _ l0_1 t399 t402 t405 t408 _ ?side1 ?side2 ?side3 ?side4 A4.out).mono ?_); (case side1 => exact pC (Kd.C_below HR0_0.out HB.out)); (case side2 => exact HC0_0.out); (case side3 => exact pC (Kd.C_below HR0_1.out HB.out)); (case side4 => exact HC0_1.out); rintro e w13 ⟨v403, v406, rfl, ho0, ho1, hb⟩; refine ⟨_, rfl, ?_⟩; have n0_ := Aside0.mk (Kd.N_mono (Kd.N_told (Kd.N_told (Kd.N_old (by exact pN HO401.out) hb) (Kd.R_base ho0)) (Kd.R_base ho1)) (fun _ h_ => h_.1)); have n1_ := Aside0.mk (Kd.R_lower (Kd.R_newM (M := fun k_ => (w.heap.size ≤ k_)) ho0 (below_size (by exact pB HB.out)) (fun k_ h_ => h_)) (below_size (by exact pB HB.out))); have n2_ := Aside0.mk (Kd.R_lower (Kd.R_newM (M := fun k_ => (w.heap.size ≤ k_)) ho1 (below_size (by exact pB HB.out)) (fun k_ h_ => h_)) (below_size (by exact pB HB.out))); have n3_ := Aside0.mk (blk_below (g := gb393) (o := .cells #[.slice A0_0 l0_0.length c0_0, .slice A0_1 l0_1.length c0_1] 24 (0, 0)) (by exact pK BK393.out) hb); have n4_ := Aside0.mk (blk_below (g := gb394) (o := .cells #[.slice none 0 0, .slice none 0 0] 24 (0, 0)) (by exact pK BK394.out) hb); have n5_ := Aside0.mk (below_step (by exact pB HB.out) hb); clear HO401; clear BK393; clear BK394; clear HB; have HO401 := n0_; have HO404 := n1_; have HO407 := n2_; have BK393 := n3_; have BK394 := n4_; have HB := n5_; clear n0_ n1_ n2_ n3_ n4_ n5_; (try clear hb); (try clear hb2); (try clear hk); (try clear hi); (try clear ho0); (try clear ho1); obtain ⟨Ao14, co14, eo14⟩ := Kd.R_slice HO404.out; subst eo14; have hcz15_0 : w13.cell? ⟨gb393, 0, none⟩ = some (.slice A0_0 l0_0.length c0_0) := (blk_cell BK393.out 0).trans rfl; have hcz15_1 : w13.cell? ⟨gb393, 1, none⟩ = some (.slice A0_1 l0_1.length c0_1) := (blk_cell BK393.out 1).trans rfl; have hfz15_0 := blk_frozen BK393.out 0; have hfz15_1 := blk_frozen BK393.out 1; obtain ⟨Ao16, co16, eo16⟩ := Kd.R_slice HO407.out; subst eo16))
  go_loopg [8, 9, 10, 11] k (fun kq v8 v9 v10 v11 w' => ∃ (x8_1 : List Int) (x9_1 : Bool) (x10_1 : List (List Int)) (x11_1 : Int), v9 = .bool x9_1 ∧ v11 = .int .i64 x11_1 ∧ Aside0 (customsref33_Open.l0 kq t398 x8_1 x9_1 x10_1 x11_1 t402 t405 = some (r1, r2, r3, r4, r5)) ∧ Aside0 (kq ≤ k) ∧ Aside0 (Kd.N k43 43 w' w.heap.size (fun k_ => (w.heap.size ≤ k_) ∧ some k_ ≠ (v10 : Value).ownBlock ∧ some k_ ≠ ((.slice Ao14 t402.length co14) : Value).ownBlock ∧ some k_ ≠ ((.slice Ao16 t405.length co16) : Value).ownBlock ∧ k_ ≠ gb393 ∧ k_ ≠ gb394) v400 t398) ∧ Aside0 (Kd.V (Kd.int .u8) 5 w' w.heap.size (fun k_ => (w.heap.size ≤ k_) ∧ some k_ ≠ (v400 : Value).ownBlock ∧ some k_ ≠ (v10 : Value).ownBlock ∧ some k_ ≠ ((.slice Ao14 t402.length co14) : Value).ownBlock ∧ some k_ ≠ ((.slice Ao16 t405.length co16) : Value).ownBlock ∧ k_ ≠ gb393 ∧ k_ ≠ gb394) v8 x8_1) ∧ Aside0 (Kd.N (Kd.slice 5 (Kd.int .u8)) 22 w' w.heap.size (fun k_ => (w.heap.size ≤ k_) ∧ some k_ ≠ (v400 : Value).ownBlock ∧ some k_ ≠ ((.slice Ao14 t402.length co14) : Value).ownBlock ∧ some k_ ≠ ((.slice Ao16 t405.length co16) : Value).ownBlock ∧ k_ ≠ gb393 ∧ k_ ≠ gb394) v10 x10_1) ∧ Aside0 (Kd.R (Kd.int .u8) 5 w' w.heap.size (fun k_ => (w.heap.size ≤ k_) ∧ some k_ ≠ ((.slice Ao16 t405.length co16) : Value).ownBlock) (.slice Ao14 t402.length co14) t402) ∧ Aside0 (Kd.R (Kd.int .u8) 5 w' w.heap.size (fun k_ => (w.heap.size ≤ k_) ∧ some k_ ≠ ((.slice Ao14 t402.length co14) : Value).ownBlock) (.slice Ao16 t405.length co16) t405) ∧ Aside0 (w'.heap[gb393]? = some (.cells #[(.slice Ao14 t402.length co14), (.slice Ao16 t405.length co16)] 24 (0, 0))) ∧ Aside0 (w'.heap[gb394]? = some (.cells #[(.slice none 0 0), (.slice none 0 0)] 24 (0, 0))) ∧ Aside0 (Below w.heap.size w w'))
  case atStart => exact ⟨(([] : List Int)), (false), (([] : List (List Int))), (0), (by first | rfl | (simp; done) | (simp [*]; done)), (by first | rfl | (simp; done) | (simp [*]; done)), H', ⟨Nat.le_refl _⟩, ⟨by (with_reducible repeat (first | apply Kd.N_alloc | apply Kd.N_drewN | apply Kd.N_drew)); exact Kd.N_mono (Kd.N_far (p := ⟨gb393, 1, none⟩) (Kd.N_far (p := ⟨gb393, 0, none⟩) (Kd.N_mono HO401.out (fun k_ hk => (⟨hk, hk.1.1.2.2.1⟩ : _ ∧ k_ ≠ gb393))) (fun _ hk => hk.2) (.slice Ao14 t402.length co14)) (fun _ hk => hk.2) (.slice Ao16 t405.length co16)) (fun _ hk => ⟨hk.1.1.1.1, ⟨(by simp [Value.ownBlock]), ⟨hk.1.1.2, ⟨hk.1.2, ⟨hk.1.1.1.2.2.1, hk.1.1.1.2.2.2⟩⟩⟩⟩⟩)⟩, ⟨by first | exact Kd.R_nil _ _ _ _ _ | exact Kd.N_nil _ _ _ _ _ | exact Kd.V_nil _ _ _ _ _ | exact Kd.Q_nil _ _ _ _ _ | exact Kd.S_nil _ _ _ _ _⟩, ⟨by first | exact Kd.S_nil _ _ _ _ _ | exact Kd.N_nil _ _ _ _ _ | exact Kd.V_nil _ _ _ _ _ | exact Kd.Q_nil _ _ _ _ _ | exact Kd.R_nil _ _ _ _ _⟩, ⟨by (with_reducible repeat (first | apply Kd.R_alloc | apply Kd.R_drewN | apply Kd.R_drew)); exact Kd.R_mono (Kd.R_far (p := ⟨gb393, 1, none⟩) (Kd.R_far (p := ⟨gb393, 0, none⟩) (Kd.R_types HO404.out BK393.out (by decide)) (fun _ hk => hk.2) (.slice Ao14 t402.length co14)) (fun _ hk => hk.2) (.slice Ao16 t405.length co16)) (fun _ hk => ⟨hk.1.1, hk.1.2⟩)⟩, ⟨by (with_reducible repeat (first | apply Kd.R_alloc | apply Kd.R_drewN | apply Kd.R_drew)); exact Kd.R_mono (Kd.R_far (p := ⟨gb393, 1, none⟩) (Kd.R_far (p := ⟨gb393, 0, none⟩) (Kd.R_types HO407.out BK393.out (by decide)) (fun _ hk => hk.2) (.slice Ao14 t402.length co14)) (fun _ hk => hk.2) (.slice Ao16 t405.length co16)) (fun _ hk => ⟨hk.1.1, hk.1.2⟩)⟩, ⟨by (with_reducible repeat (first | refine blk_drewN ?_ _ | refine blk_drew ?_ | refine blk_alloc ?_ _)); refine blk_put (cs := #[.slice Ao14 t402.length co14, .slice A0_1 l0_1.length c0_1]) ?_ 1 _ rfl; (with_reducible repeat (first | refine blk_drewN ?_ _ | refine blk_drew ?_ | refine blk_alloc ?_ _)); refine blk_put (cs := #[.slice A0_0 l0_0.length c0_0, .slice A0_1 l0_1.length c0_1]) ?_ 0 _ rfl; (with_reducible repeat (first | refine blk_drewN ?_ _ | refine blk_drew ?_ | refine blk_alloc ?_ _)); exact BK393.out⟩, ⟨by (with_reducible repeat (first | refine blk_drewN ?_ _ | refine blk_drew ?_ | refine blk_alloc ?_ _)); refine blk_far ?_ NB394_393.out _; (with_reducible repeat (first | refine blk_drewN ?_ _ | refine blk_drew ?_ | refine blk_alloc ?_ _)); refine blk_far ?_ NB394_393.out _; (with_reducible repeat (first | refine blk_drewN ?_ _ | refine blk_drew ?_ | refine blk_alloc ?_ _)); exact BK394.out⟩, ⟨by repeat (first | (with_reducible first | exact HB.out | apply below_alloc | apply pw_below_drewN | apply below_drew1 | refine below_set ?_ GE393.out | refine below_set ?_ GE394.out) | exact HB.out)⟩⟩
  case round =>
    clear H'
    try clear c1
    try clear c2
    try clear p2
    try clear c3
    try clear c7
    try clear hcz12_0
    try clear hcz12_1
    try clear hcz15_0
    try clear hcz15_1
    try clear hcz8_0
    try clear hcz8_1
    try clear hfz12_0
    try clear hfz12_1
    try clear hfz15_0
    try clear hfz15_1
    try clear hfz8_0
    try clear hfz8_1
    obtain ⟨x8_1, x9_1, x10_1, x11_1, rfl, rfl, HA, HK1, HO_6, HO_8, HO_10, HO_394000, HO_394001, BK393, BK394, HB⟩ := hrel
    cases gk with
    | zero => exact absurd HA.out (by simp [customsref33_Open.l0])
    | succ k1 =>
      have H := HA.out
      clear HA
      simp only [customsref33_Open.l0] at H
      by_cases c17 : x11_1 < (t398.length : Int)
      · rw [if_pos c17] at H
        have c17b0 : decide (x11_1 < (t398.length : Int)) = true := decide_eq_true c17
        clear c17
        have c18 : 0 ≤ x11_1 := by
          refine Classical.byContradiction fun c18 => ?_
          rw [if_neg c18] at H
          exact absurd H (by simp)
        rw [if_pos c18] at H
        have c18b0 : decide (0 ≤ x11_1) = true := decide_eq_true c18
        clear c18
        by_cases c19 : ((rd_T43 t398 x11_1).f0) = 2
        · rw [if_pos c19] at H
          have c19b0 : (((rd_T43 t398 x11_1).f0) == 2) = true := beq_iff_eq.mpr c19
          have c19b1 : (((rd_T43 t398 x11_1).f0) != 2) = false := bne_eq_false_iff_eq.mpr c19
          clear c19
          have H' := Aside0.mk H
          clear H
          obtain ⟨Ao20, co20, eo20⟩ := Kd.N_slice HO_6.out
          subst eo20
          have p409 : 0 ≤ (x11_1 : Int) := of_decide_eq_true (by first | (with_reducible assumption) | assumption)
          have q409 : x11_1 < (t398.length : Int) := of_decide_eq_true (by first | (with_reducible assumption) | assumption)
          obtain ⟨ad409, A409_1, c409_1, e409, hx409_0, hx409_1, hl409_1, hi409_1⟩ := at_T43 (Kd.N_reads' HO_6.out).2.2 x11_1 p409 q409
          cases e409
          obtain ⟨ce409, hce409, hMe409, hcc409⟩ := Kd.N_get HO_6.out z43 x11_1 p409 (by first | exact q409 | exact of_decide_eq_true (by first | (with_reducible assumption) | assumption) | (have e_ := (Kd.N_reads' HO_6.out).1; omega))
          obtain ⟨ua409_1, uc409_1, rfl, ul409_1, ge409_1⟩ := k43_openF hMe409
          have hv409_1 := hcc409 1 _ rfl
          rw [add_field _ _ 1 (by omega)] at hv409_1
          replace hv409_1 := Option.some.inj (hv409_1.symm.trans hx409_1)
          injection hv409_1 with hva_ hvn_ hvc_
          rw [hva_] at ge409_1
          rw [hvc_] at ul409_1
          have HL409_1 := Aside0.mk (show Kd.V (Kd.int .u8) 5 _ w.heap.size _ _ ((rd_T43 t398 x11_1).f1) from Kd.V_mk ul409_1 ge409_1)
          clear hva_ hvn_ hvc_ ge409_1 ul409_1
          clear hcc409 hce409
          have HR409_1 := Aside0.mk hi409_1
          have HC409_1 := Aside0.mk hl409_1
          clear hi409_1 hl409_1
          replace p409 := eq_true p409
          replace q409 := eq_true q409
          have p410 : 0 ≤ (x11_1 : Int) := of_decide_eq_true (by first | (with_reducible assumption) | assumption)
          have q410 : x11_1 < (t398.length : Int) := of_decide_eq_true (by first | (with_reducible assumption) | assumption)
          obtain ⟨ad410, A410_1, c410_1, e410, hx410_0, hx410_1, hl410_1, hi410_1⟩ := at_T43 (Kd.N_reads' HO_6.out).2.2 x11_1 p410 q410
          obtain rfl : ad409 = ad410 := (by injection e410)
          obtain ⟨ce410, hce410, hMe410, hcc410⟩ := Kd.N_get HO_6.out z43 x11_1 p410 (by first | exact q410 | exact of_decide_eq_true (by first | (with_reducible assumption) | assumption) | (have e_ := (Kd.N_reads' HO_6.out).1; omega))
          obtain ⟨ua410_1, uc410_1, rfl, ul410_1, ge410_1⟩ := k43_openF hMe410
          have hv410_1 := hcc410 1 _ rfl
          rw [add_field _ _ 1 (by omega)] at hv410_1
          replace hv410_1 := Option.some.inj (hv410_1.symm.trans hx410_1)
          injection hv410_1 with hva_ hvn_ hvc_
          rw [hva_] at ge410_1
          rw [hvc_] at ul410_1
          have HL410_1 := Aside0.mk (show Kd.V (Kd.int .u8) 5 _ w.heap.size _ _ ((rd_T43 t398 x11_1).f1) from Kd.V_mk ul410_1 ge410_1)
          clear hva_ hvn_ hvc_ ge410_1 ul410_1
          clear hcc410 hce410
          have HR410_1 := Aside0.mk hi410_1
          have HC410_1 := Aside0.mk hl410_1
          clear hi410_1 hl410_1
          replace p410 := eq_true p410
          replace q410 := eq_true q410
          have ea_ := Option.some.inj (hx409_1.symm.trans hx410_1)
          injection ea_ with ea_ en_ ec_
          subst ea_
          subst ec_
          clear en_
          go_wp2
          go_roundg k1
          case measure => have := HK1.out; omega
          case rel => exact ⟨((rd_T43 t398 x11_1).f1), (true), (([] : List (List Int))), (wrap64 (x11_1 + 1)), (by first | rfl | (simp; done) | (simp [*]; done)), (by first | rfl | (simp; done) | (simp [*]; done)), H', ⟨by have := HK1.out; omega⟩, ⟨by exact pN (Kd.N_mono HO_6.out (fun _ hk => ⟨hk.1, ⟨(by simp [Value.ownBlock]), ⟨hk.2.2.1, ⟨hk.2.2.2.1, ⟨hk.2.2.2.2.1, hk.2.2.2.2.2⟩⟩⟩⟩⟩))⟩, ⟨by exact pV (Kd.V_mono HL410_1.out (fun _ hk => ⟨hk.1.1, ⟨hk.2, ⟨(by simp [Value.ownBlock]), ⟨hk.1.2.2.1, ⟨hk.1.2.2.2.1, ⟨hk.1.2.2.2.2.1, hk.1.2.2.2.2.2⟩⟩⟩⟩⟩⟩))⟩, ⟨by first | exact Kd.S_nil _ _ _ _ _ | exact Kd.N_nil _ _ _ _ _ | exact Kd.V_nil _ _ _ _ _ | exact Kd.Q_nil _ _ _ _ _ | exact Kd.R_nil _ _ _ _ _⟩, ⟨by exact pR HO_394000.out⟩, ⟨by exact pR HO_394001.out⟩, ⟨by exact pK BK393.out⟩, ⟨by exact pK BK394.out⟩, ⟨by exact pB HB.out⟩⟩
        · rw [if_neg c19] at H
          have c19b0 : (((rd_T43 t398 x11_1).f0) == 2) = false := beq_eq_false_iff_ne.mpr c19
          have c19b1 : (((rd_T43 t398 x11_1).f0) != 2) = true := bne_iff_ne.mpr c19
          have c21 : x10_1.length < 5864062014805 := by
            refine Classical.byContradiction fun c21 => ?_
            rw [if_neg c21] at H
            exact absurd H (by simp)
          rw [if_pos c21] at H
          have LMc21 := Aside0.mk c21
          clear c21
          obtain ⟨y412, hy412⟩ : ∃ y_ : List (List Int), y_ = (x10_1 ++ [(rd_T43 t398 x11_1).f1]) := ⟨_, rfl⟩
          replace H : (customsref33_Open.l0 k1 t398 x8_1 x9_1 y412 (wrap64 (x11_1 + 1)) t402 t405) = some (r1, r2, r3, r4, r5) := by first | (rw [hy412]; with_reducible exact H) | (have H2_ := (Option.bind_some _ _).symm.trans H; rw [hy412]; with_reducible exact H2_) | (have H2_ := (Option.bind_some _ _).symm.trans H; with_reducible exact H2_) | with_reducible exact H | (rw [hy412]; exact H) | exact H
          have Ny412 := Aside0.mk hy412
          clear hy412
          have H' := Aside0.mk H
          clear H
          obtain ⟨Ao22, co22, eo22⟩ := Kd.N_slice HO_6.out
          subst eo22
          have p409 : 0 ≤ (x11_1 : Int) := of_decide_eq_true (by first | (with_reducible assumption) | assumption)
          have q409 : x11_1 < (t398.length : Int) := of_decide_eq_true (by first | (with_reducible assumption) | assumption)
          obtain ⟨ad409, A409_1, c409_1, e409, hx409_0, hx409_1, hl409_1, hi409_1⟩ := at_T43 (Kd.N_reads' HO_6.out).2.2 x11_1 p409 q409
          cases e409
          obtain ⟨ce409, hce409, hMe409, hcc409⟩ := Kd.N_get HO_6.out z43 x11_1 p409 (by first | exact q409 | exact of_decide_eq_true (by first | (with_reducible assumption) | assumption) | (have e_ := (Kd.N_reads' HO_6.out).1; omega))
          obtain ⟨ua409_1, uc409_1, rfl, ul409_1, ge409_1⟩ := k43_openF hMe409
          have hv409_1 := hcc409 1 _ rfl
          rw [add_field _ _ 1 (by omega)] at hv409_1
          replace hv409_1 := Option.some.inj (hv409_1.symm.trans hx409_1)
          injection hv409_1 with hva_ hvn_ hvc_
          rw [hva_] at ge409_1
          rw [hvc_] at ul409_1
          have HL409_1 := Aside0.mk (show Kd.V (Kd.int .u8) 5 _ w.heap.size _ _ ((rd_T43 t398 x11_1).f1) from Kd.V_mk ul409_1 ge409_1)
          clear hva_ hvn_ hvc_ ge409_1 ul409_1
          clear hcc409 hce409
          have HR409_1 := Aside0.mk hi409_1
          have HC409_1 := Aside0.mk hl409_1
          clear hi409_1 hl409_1
          replace p409 := eq_true p409
          replace q409 := eq_true q409
          have p411 : 0 ≤ (x11_1 : Int) := of_decide_eq_true (by first | (with_reducible assumption) | assumption)
          have q411 : x11_1 < (t398.length : Int) := of_decide_eq_true (by first | (with_reducible assumption) | assumption)
          obtain ⟨ad411, A411_1, c411_1, e411, hx411_0, hx411_1, hl411_1, hi411_1⟩ := at_T43 (Kd.N_reads' HO_6.out).2.2 x11_1 p411 q411
          obtain rfl : ad409 = ad411 := (by injection e411)
          obtain ⟨ce411, hce411, hMe411, hcc411⟩ := Kd.N_get HO_6.out z43 x11_1 p411 (by first | exact q411 | exact of_decide_eq_true (by first | (with_reducible assumption) | assumption) | (have e_ := (Kd.N_reads' HO_6.out).1; omega))
          obtain ⟨ua411_1, uc411_1, rfl, ul411_1, ge411_1⟩ := k43_openF hMe411
          have hv411_1 := hcc411 1 _ rfl
          rw [add_field _ _ 1 (by omega)] at hv411_1
          replace hv411_1 := Option.some.inj (hv411_1.symm.trans hx411_1)
          injection hv411_1 with hva_ hvn_ hvc_
          rw [hva_] at ge411_1
          rw [hvc_] at ul411_1
          have HL411_1 := Aside0.mk (show Kd.V (Kd.int .u8) 5 _ w.heap.size _ _ ((rd_T43 t398 x11_1).f1) from Kd.V_mk ul411_1 ge411_1)
          clear hva_ hvn_ hvc_ ge411_1 ul411_1
          clear hcc411 hce411
          have HR411_1 := Aside0.mk hi411_1
          have HC411_1 := Aside0.mk hl411_1
          clear hi411_1 hl411_1
          replace p411 := eq_true p411
          replace q411 := eq_true q411
          have ea_ := Option.some.inj (hx409_1.symm.trans hx411_1)
          injection ea_ with ea_ en_ ec_
          subst ea_
          subst ec_
          clear en_
          go_wp2_with (first | ((with_reducible refine gate_builtin (b := .append) (xs := #[.tmp 41, .tmp 47]) rfl ?_); at_builtin; refine Kd.N_append (Kd.slice 5 (Kd.int .u8)) (w0 := w) w.heap.size rfl (.tmp 41) (.tmp 47) 34 22 (.slice none 0 0) 24 rfl Try.underlying34 info22 rfl (by decide) (by omega) u10 x10_1 ((rd_T43 t398 x11_1).f1) [.slice A409_1 ((rd_T43 t398 x11_1).f1).length c409_1] (fun k_ => (w.heap.size ≤ k_) ∧ some k_ ≠ (.slice (some ad409) t398.length co22 : Value).ownBlock ∧ some k_ ≠ (.slice Ao14 t402.length co14 : Value).ownBlock ∧ some k_ ≠ (.slice Ao16 t405.length co16 : Value).ownBlock ∧ k_ ≠ gb393 ∧ k_ ≠ gb394) (fun k_ => ((fun k_ => (w.heap.size ≤ k_) ∧ some k_ ≠ (.slice (some ad409) t398.length co22 : Value).ownBlock ∧ some k_ ≠ (.slice Ao14 t402.length co14 : Value).ownBlock ∧ some k_ ≠ (.slice Ao16 t405.length co16 : Value).ownBlock ∧ k_ ≠ gb393 ∧ k_ ≠ gb394)) k_ ∧ some k_ ≠ (u10 : Value).ownBlock) rfl rfl ?aP (fun _ hk => hk) ?aF ?aO ?aB ?aS ?aL ?_; (case aP => exact (Kd.FK_slice_mk (Kd.V_reads' (Kd.V_mono (ok' := (fun k_ => ((fun k_ => (w.heap.size ≤ k_) ∧ some k_ ≠ (.slice (some ad409) t398.length co22 : Value).ownBlock ∧ some k_ ≠ (.slice Ao14 t402.length co14 : Value).ownBlock ∧ some k_ ≠ (.slice Ao16 t405.length co16 : Value).ownBlock ∧ k_ ≠ gb393 ∧ k_ ≠ gb394)) k_ ∧ some k_ ≠ (u10 : Value).ownBlock)) (HL411_1.out) (fun k_ hk => ⟨⟨hk.1.1, ⟨hk.2, ⟨hk.1.2.2.1, ⟨hk.1.2.2.2.1, ⟨hk.1.2.2.2.2.1, hk.1.2.2.2.2.2⟩⟩⟩⟩⟩, hk.1.2.1⟩))).2.1 (Kd.V_F (Kd.V_mono (ok' := (fun k_ => ((fun k_ => (w.heap.size ≤ k_) ∧ some k_ ≠ (.slice (some ad409) t398.length co22 : Value).ownBlock ∧ some k_ ≠ (.slice Ao14 t402.length co14 : Value).ownBlock ∧ some k_ ≠ (.slice Ao16 t405.length co16 : Value).ownBlock ∧ k_ ≠ gb393 ∧ k_ ≠ gb394)) k_ ∧ some k_ ≠ (u10 : Value).ownBlock)) (HL411_1.out) (fun k_ hk => ⟨⟨hk.1.1, ⟨hk.2, ⟨hk.1.2.2.1, ⟨hk.1.2.2.2.1, ⟨hk.1.2.2.2.2.1, hk.1.2.2.2.2.2⟩⟩⟩⟩⟩, hk.1.2.1⟩))))); (case aB => exact (by exact pB HB.out)); (case aF => exact (fun k_ hk => ⟨(Nat.le_trans (below_size (by exact pB HB.out)) hk), Kd.fresh' (Kd.N_lt (by exact pN HO_6.out)) k_ hk, Kd.fresh' (Kd.R_lt (by exact pR HO_394000.out)) k_ hk, Kd.fresh' (Kd.R_lt (by exact pR HO_394001.out)) k_ hk, Kd.freshB (g := gb393) (o := .cells #[.slice Ao14 t402.length co14, .slice Ao16 t405.length co16] 24 (0, 0)) (by exact pK BK393.out) k_ hk, Kd.freshB (g := gb394) (o := .cells #[.slice none 0 0, .slice none 0 0] 24 (0, 0)) (by exact pK BK394.out) k_ hk⟩)); (case aO => exact (by exact pN HO_10.out)); (case aS => exact (below_size (by exact pB HB.out))); (case aL => have := LMc21.out; omega); intro v413 w23 ho hb hg hat; rw [← Ny412.out] at ho; have n0_ := Aside0.mk (Kd.N_afterv (ok := (fun k_ => (w.heap.size ≤ k_) ∧ some k_ ≠ (.slice Ao14 t402.length co14 : Value).ownBlock ∧ some k_ ≠ (.slice Ao16 t405.length co16 : Value).ownBlock ∧ k_ ≠ gb393 ∧ k_ ≠ gb394)) (by exact pN (Kd.N_mono HO_6.out (fun _ hk => ⟨⟨hk.1, ⟨hk.2.2.1, ⟨hk.2.2.2.1, ⟨hk.2.2.2.2.1, hk.2.2.2.2.2⟩⟩⟩⟩, hk.2.1⟩))) hg hat); have n1_ := Aside0.mk (Kd.V_afterv (ok := (fun k_ => (w.heap.size ≤ k_) ∧ some k_ ≠ (.slice (some ad409) t398.length co22 : Value).ownBlock ∧ some k_ ≠ (.slice Ao14 t402.length co14 : Value).ownBlock ∧ some k_ ≠ (.slice Ao16 t405.length co16 : Value).ownBlock ∧ k_ ≠ gb393 ∧ k_ ≠ gb394)) (by exact pV (Kd.V_mono HO_8.out (fun _ hk => ⟨⟨hk.1, ⟨hk.2.1, ⟨hk.2.2.2.1, ⟨hk.2.2.2.2.1, ⟨hk.2.2.2.2.2.1, hk.2.2.2.2.2.2⟩⟩⟩⟩⟩, hk.2.2.1⟩))) hg hat); have n2_ := Aside0.mk (Kd.R_over' (by exact pR HO_394000.out) (Kd.N_typed (by exact pN HO_10.out)) (by decide) hg); have n3_ := Aside0.mk (Kd.R_over' (by exact pR HO_394001.out) (Kd.N_typed (by exact pN HO_10.out)) (by decide) hg); have n4_ := Aside0.mk (blk_grown (g := gb393) (o := .cells #[.slice Ao14 t402.length co14, .slice Ao16 t405.length co16] 24 (0, 0)) (by exact pK BK393.out) hg (Kd.N_ne HO_10.out BK393.out (by decide))); have n5_ := Aside0.mk (blk_grown (g := gb394) (o := .cells #[.slice none 0 0, .slice none 0 0] 24 (0, 0)) (by exact pK BK394.out) hg (Kd.N_ne HO_10.out BK394.out (by decide))); have n6_ := Aside0.mk (Kd.V_afterv (ok := (fun k_ => (w.heap.size ≤ k_) ∧ some k_ ≠ (.slice (some ad409) t398.length co22 : Value).ownBlock ∧ some k_ ≠ (.slice Ao14 t402.length co14 : Value).ownBlock ∧ some k_ ≠ (.slice Ao16 t405.length co16 : Value).ownBlock ∧ k_ ≠ gb393 ∧ k_ ≠ gb394)) (by exact pV (Kd.V_mono HL411_1.out (fun _ hk => ⟨⟨hk.1.1, ⟨hk.2, ⟨hk.1.2.2.1, ⟨hk.1.2.2.2.1, ⟨hk.1.2.2.2.2.1, hk.1.2.2.2.2.2⟩⟩⟩⟩⟩, hk.1.2.1⟩))) hg hat); have n7_ := Aside0.mk (hb); have n8_ := Aside0.mk (ho); clear HO_6; clear HO_8; clear HO_394000; clear HO_394001; clear BK393; clear BK394; clear HL411_1; clear HB; clear HO_10; have HO_6 := n0_; have HO_8 := n1_; have HO_394000 := n2_; have HO_394001 := n3_; have BK393 := n4_; have BK394 := n5_; have HL411_1 := n6_; have HB := n7_; have HO414 := n8_; clear n0_ n1_ n2_ n3_ n4_ n5_ n6_ n7_ n8_; clear ho hb hg hat))
          go_roundg k1
          case measure => have := HK1.out; omega
          case rel => exact ⟨(x8_1), (x9_1), (y412), (wrap64 (x11_1 + 1)), (by first | rfl | (simp; done) | (simp [*]; done)), (by first | rfl | (simp; done) | (simp [*]; done)), H', ⟨by have := HK1.out; omega⟩, ⟨by exact pN (Kd.N_mono HO_6.out (fun _ hk => ⟨hk.1.1, ⟨hk.2, ⟨hk.1.2.1, ⟨hk.1.2.2.1, ⟨hk.1.2.2.2.1, hk.1.2.2.2.2⟩⟩⟩⟩⟩))⟩, ⟨by exact pV (Kd.V_mono HO_8.out (fun _ hk => ⟨hk.1.1, ⟨hk.1.2.1, ⟨hk.2, ⟨hk.1.2.2.1, ⟨hk.1.2.2.2.1, ⟨hk.1.2.2.2.2.1, hk.1.2.2.2.2.2⟩⟩⟩⟩⟩⟩))⟩, ⟨by exact pN HO414.out⟩, ⟨by exact pR HO_394000.out⟩, ⟨by exact pR HO_394001.out⟩, ⟨by exact pK BK393.out⟩, ⟨by exact pK BK394.out⟩, ⟨by exact pB HB.out⟩⟩
      · rw [if_neg c17] at H
        have c17b0 : decide (x11_1 < (t398.length : Int)) = false := decide_eq_false c17
        clear c17
        simp only [Option.some.injEq, Prod.mk.injEq] at H
        obtain ⟨rfl, rfl, rfl, rfl, rfl⟩ := H
        obtain ⟨Ao24, co24, eo24⟩ := Kd.N_slice HO_6.out
        subst eo24
        have hnb25 := NB393_394.out
        have hnc25 := NB394_393.out
        have hcz26_0 : wr.cell? ⟨gb393, 0, none⟩ = some (.slice Ao14 t402.length co14) := (blk_cell BK393.out 0).trans rfl
        have hcz26_1 : wr.cell? ⟨gb393, 1, none⟩ = some (.slice Ao16 t405.length co16) := (blk_cell BK393.out 1).trans rfl
        have hfz26_0 := blk_frozen BK393.out 0
        have hfz26_1 := blk_frozen BK393.out 1
        have hcz27_0 : wr.cell? ⟨gb394, 0, none⟩ = some (.slice none 0 0) := (blk_cell BK394.out 0).trans rfl
        have hcz27_1 : wr.cell? ⟨gb394, 1, none⟩ = some (.slice none 0 0) := (blk_cell BK394.out 1).trans rfl
        have hfz27_0 := blk_frozen BK394.out 0
        have hfz27_1 := blk_frozen BK394.out 1
        go_wp2
        refine bodyPost_ret (results_list (rs := [.cell 2 24, .tmp 3, .tmp 4, .tmp 5]) rfl (by simp) (.cell gb394 24 #[.slice Ao14 t402.length co14, .slice Ao16 t405.length co16] (0, 0) _ rfl (by (with_reducible repeat (first | refine blk_drewN ?_ _ | refine blk_drew ?_ | refine blk_alloc ?_ _)); refine blk_put (cs := #[.slice Ao14 t402.length co14, .slice none 0 0]) ?_ 1 _ rfl; (with_reducible repeat (first | refine blk_drewN ?_ _ | refine blk_drew ?_ | refine blk_alloc ?_ _)); refine blk_put (cs := #[.slice none 0 0, .slice none 0 0]) ?_ 0 _ rfl; (with_reducible repeat (first | refine blk_drewN ?_ _ | refine blk_drew ?_ | refine blk_alloc ?_ _)); exact BK394.out) Try.underlying24 rfl (by kernel_rfl) (.tmp (.tmp (.tmp .nil))))) rfl ?_
        exact ⟨_, _, _, _, by first | rfl | (simp [errW_none, errW_some] <;> rfl) | (simp [*, errW_none, errW_some] <;> rfl), by (with_reducible repeat (first | apply Kd.R_alloc | apply Kd.R_drewN | apply Kd.R_drew)); exact Kd.R_mono (Kd.R_far (p := ⟨gb394, 1, none⟩) (Kd.R_far (p := ⟨gb394, 0, none⟩) (Kd.R_types HO_394000.out BK394.out (by decide)) (fun _ hk => hk.2) (.slice Ao14 t402.length co14)) (fun _ hk => hk.2) (.slice Ao16 t405.length co16)) (fun _ hk => ⟨hk.1.1, hk.1.2⟩), by (with_reducible repeat (first | apply Kd.R_alloc | apply Kd.R_drewN | apply Kd.R_drew)); exact Kd.R_mono (Kd.R_far (p := ⟨gb394, 1, none⟩) (Kd.R_far (p := ⟨gb394, 0, none⟩) (Kd.R_types HO_394001.out BK394.out (by decide)) (fun _ hk => hk.2) (.slice Ao14 t402.length co14)) (fun _ hk => hk.2) (.slice Ao16 t405.length co16)) (fun _ hk => ⟨hk.1.1, hk.1.2⟩), by (with_reducible repeat (first | apply Kd.V_alloc | apply Kd.V_drewN | apply Kd.V_drew)); exact Kd.V_mono (Kd.V_far (p := ⟨gb394, 1, none⟩) (Kd.V_far (p := ⟨gb394, 0, none⟩) (Kd.V_mono HO_8.out (fun k_ hk => (⟨hk, hk.2.2.2.2.2.2⟩ : _ ∧ k_ ≠ gb394))) (fun _ hk => hk.2) (.slice Ao14 t402.length co14)) (fun _ hk => hk.2) (.slice Ao16 t405.length co16)) (fun _ hk => ⟨hk.1.1, ⟨hk.1.2.2.2.1, ⟨hk.1.2.2.2.2.1, hk.1.2.2.1⟩⟩⟩), by (with_reducible repeat (first | apply Kd.N_alloc | apply Kd.N_drewN | apply Kd.N_drew)); exact Kd.N_mono (Kd.N_far (p := ⟨gb394, 1, none⟩) (Kd.N_far (p := ⟨gb394, 0, none⟩) (Kd.N_mono HO_10.out (fun k_ hk => (⟨hk, hk.2.2.2.2.2⟩ : _ ∧ k_ ≠ gb394))) (fun _ hk => hk.2) (.slice Ao14 t402.length co14)) (fun _ hk => hk.2) (.slice Ao16 t405.length co16)) (fun _ hk => ⟨hk.1.1, ⟨hk.1.2.2.1, hk.1.2.2.2.1⟩⟩), by repeat (first | (with_reducible first | exact HB.out | apply below_alloc | apply pw_below_drewN | apply below_drew1 | refine below_set ?_ GE393.out | refine below_set ?_ GE394.out) | exact HB.out)⟩

/-! ### customsref33_SameRecords: function 40 -/
def customsref33_SameRecords.l0 : Nat → List (List Int) → List (List Int) → Int → Option (Bool)
  | 0, _, _, _ => none
  | k + 1, x0, x1, x5 => if x5 < (x0.length : Int) then (if 0 ≤ x5 then (if x5 < (x1.length : Int) then ((customsref33_SameBytes.f (rd_L1 x0 x5) (rd_L1 x1 x5)).bind fun t417 => (if t417 = true then (customsref33_SameRecords.l0 k x0 x1 (wrap64 (x5 + 1))) else (some false))) else (none)) else (none)) else (some true)
def customsref33_SameRecords.f (k : Nat) (l0 : List (List Int)) (l1 : List (List Int)) : Option (Bool) := if (l0.length : Int) = (l1.length : Int) then (customsref33_SameRecords.l0 k l0 l1 0) else (some false)
theorem customsref33_SameRecords.mono_l : ∀ k, (∀ y0 y1 y2, LeO (customsref33_SameRecords.l0 k y0 y1 y2) (customsref33_SameRecords.l0 (k + 1) y0 y1 y2))
  | 0 => fun _ _ _ r h => by simp [customsref33_SameRecords.l0] at h
  | k + 1 => by
    have ih0 := customsref33_SameRecords.mono_l k
    · intro y0 y1 y2
      unfold customsref33_SameRecords.l0
      repeat' first
      | (with_reducible exact ih0 _ _ _)
      | (with_reducible exact LeO.refl _)
      | (with_reducible exact LeO.none _)
      | (with_reducible refine LeO.ite ?_ ?_)
      | (with_reducible refine LeO.bind ?_ (fun _ => ?_))
      | exact ih0 _ _ _
      | exact LeO.none _
      | refine LeO.ite ?_ ?_
      | refine LeO.bind ?_ (fun _ => ?_)
theorem customsref33_SameRecords.mono : ∀ a0 a1 k, LeO (customsref33_SameRecords.f k a0 a1) (customsref33_SameRecords.f (k + 1) a0 a1) := by
  intro a0 a1 k
  have ih0 := customsref33_SameRecords.mono_l k
  unfold customsref33_SameRecords.f
  repeat' first
      | (with_reducible exact ih0 _ _ _)
      | (with_reducible exact LeO.refl _)
      | (with_reducible exact LeO.none _)
      | (with_reducible refine LeO.ite ?_ ?_)
      | (with_reducible refine LeO.bind ?_ (fun _ => ?_))
      | exact ih0 _ _ _
      | exact LeO.none _
      | refine LeO.ite ?_ ?_
      | refine LeO.bind ?_ (fun _ => ?_)
set_option maxHeartbeats 8000000 in
set_option maxRecDepth 100000 in
theorem customsref33_SameRecords.calls (k : Nat) (A0 : Option Addr) (c0 : Nat) (l0 : List (List Int)) (A1 : Option Addr) (c1 : Nat) (l1 : List (List Int)) (r : Bool) (w : World) (hr0 : Kd.C (Kd.slice 5 (Kd.int .u8)) w A0 l0.length l0) (hc0 : l0.length ≤ c0) (hr1 : Kd.C (Kd.slice 5 (Kd.int .u8)) w A1 l1.length l1) (hc1 : l1.length ≤ c1) (h : customsref33_SameRecords.f k l0 l1 = some r) :
    Calls Try.prog 40 #[.slice A0 l0.length c0, .slice A1 l1.length c1] w fun e w' => e = .returned (.bool r) ∧ Drawn0 w w' := by
  have HR0 := Aside0.mk hr0
  have HC0 := Aside0.mk hc0
  clear hr0 hc0
  have HR1 := Aside0.mk hr1
  have HC1 := Aside0.mk hc1
  clear hr1 hc1
  have H : (if (l0.length : Int) = (l1.length : Int) then (customsref33_SameRecords.l0 k l0 l1 0) else (some false)) = some r := h
  clear h
  by_cases c3 : (l0.length : Int) = (l1.length : Int)
  · rw [if_pos c3] at H
    have c3b0 : ((l0.length : Int) == (l1.length : Int)) = true := beq_iff_eq.mpr c3
    have c3b1 : ((l0.length : Int) != (l1.length : Int)) = false := bne_eq_false_iff_eq.mpr c3
    have c3b2 : (l0.length == l1.length) = true := by first | simpa using c3 | (simp at c3 ⊢; omega)
    clear c3
    have H' := Aside0.mk H
    clear H
    go_enter Try.func40, Try.ntmps40
    go_wp2
    repeat (go_quiet (fail); try go_wp2)
    go_loopg [5] k (fun kq v5 w' => ∃ (x5_1 : Int), v5 = .int .i64 x5_1 ∧ Aside0 (customsref33_SameRecords.l0 kq l0 l1 x5_1 = some r) ∧ Aside0 (kq ≤ k) ∧ Drawn0 w w')
    case atStart => exact ⟨(0), (by first | rfl | (simp; done) | (simp [*]; done)), H', ⟨Nat.le_refl _⟩, by repeat (first | exact Drawn0.refl _ | apply Drawn0.step)⟩
    case round =>
      clear H'
      try clear c1
      try clear p2
      try clear c3
      try clear c3b0
      try clear c3b1
      try clear c3b2
      obtain ⟨x5_1, rfl, HA, HK1, ⟨m1, rfl⟩⟩ := hrel
      cases gk with
      | zero => exact absurd HA.out (by simp [customsref33_SameRecords.l0])
      | succ k1 =>
        have H := HA.out
        clear HA
        simp only [customsref33_SameRecords.l0] at H
        by_cases c4 : x5_1 < (l0.length : Int)
        · rw [if_pos c4] at H
          have c4b0 : decide (x5_1 < (l0.length : Int)) = true := decide_eq_true c4
          clear c4
          have c5 : 0 ≤ x5_1 := by
            refine Classical.byContradiction fun c5 => ?_
            rw [if_neg c5] at H
            exact absurd H (by simp)
          rw [if_pos c5] at H
          have c5b0 : decide (0 ≤ x5_1) = true := decide_eq_true c5
          clear c5
          have c6 : x5_1 < (l1.length : Int) := by
            refine Classical.byContradiction fun c6 => ?_
            rw [if_neg c6] at H
            exact absurd H (by simp)
          rw [if_pos c6] at H
          have c6b0 : decide (x5_1 < (l1.length : Int)) = true := decide_eq_true c6
          clear c6
          replace H := Option.bind_eq_some_iff.mp H
          obtain ⟨t417, A70, H⟩ := H
          replace H : (if t417 = true then (customsref33_SameRecords.l0 k1 l0 l1 (wrap64 (x5_1 + 1))) else (some false)) = some r := H
          have A7 := Aside0.mk A70
          clear A70
          by_cases c8 : t417 = true
          · subst c8
            have H1 : (customsref33_SameRecords.l0 k1 l0 l1 (wrap64 (x5_1 + 1))) = some r := by rw [if_pos rfl] at H; exact H
            clear H
            have H := H1
            clear H1
            have H' := Aside0.mk H
            clear H
            have p415 : 0 ≤ (x5_1 : Int) := of_decide_eq_true (by first | (with_reducible assumption) | assumption)
            have q415 : x5_1 < (l0.length : Int) := of_decide_eq_true (by first | (with_reducible assumption) | assumption)
            obtain ⟨ad415, A415_0, c415_0, e415, hx415_0, hl415_0, hi415_0⟩ := at_L1 HR0.out x5_1 p415 q415
            cases e415
            have HR415_0 := Aside0.mk hi415_0
            have HC415_0 := Aside0.mk hl415_0
            clear hi415_0 hl415_0
            replace p415 := eq_true p415
            replace q415 := eq_true q415
            have p416 : 0 ≤ (x5_1 : Int) := of_decide_eq_true (by first | (with_reducible assumption) | assumption)
            have q416 : x5_1 < (l1.length : Int) := of_decide_eq_true (by first | (with_reducible assumption) | assumption)
            obtain ⟨ad416, A416_0, c416_0, e416, hx416_0, hl416_0, hi416_0⟩ := at_L1 HR1.out x5_1 p416 q416
            cases e416
            have HR416_0 := Aside0.mk hi416_0
            have HC416_0 := Aside0.mk hl416_0
            clear hi416_0 hl416_0
            replace p416 := eq_true p416
            replace q416 := eq_true q416
            go_wp2_with (first | (go_at_call 17; (with_reducible refine (customsref33_SameBytes.calls _ _ (rd_L1 l0 x5_1) _ _ (rd_L1 l1 x5_1) true _ ?side1 ?side2 ?side3 ?side4 A7.out).mono ?_); (case side1 => exact pC HR415_0.out); (case side2 => exact HC415_0.out); (case side3 => exact pC HR416_0.out); (case side4 => exact HC416_0.out); rintro e w' ⟨rfl, ⟨nd, rfl⟩⟩; (try first | exact ⟨rfl, _, World.drewN_drewN _ _ _⟩ | exact ⟨rfl, _, Eq.trans (World.drewN_drewN _ _ _) (congrArg (World.drewN _) (Nat.add_assoc _ _ _))⟩)))
            repeat (go_quiet (first | (go_at_call 17; (with_reducible refine (customsref33_SameBytes.calls _ _ (rd_L1 l0 x5_1) _ _ (rd_L1 l1 x5_1) true _ ?side1 ?side2 ?side3 ?side4 A7.out).mono ?_); (case side1 => exact pC HR415_0.out); (case side2 => exact HC415_0.out); (case side3 => exact pC HR416_0.out); (case side4 => exact HC416_0.out); rintro e w' ⟨rfl, ⟨nd, rfl⟩⟩; (try first | exact ⟨rfl, _, World.drewN_drewN _ _ _⟩ | exact ⟨rfl, _, Eq.trans (World.drewN_drewN _ _ _) (congrArg (World.drewN _) (Nat.add_assoc _ _ _))⟩))); try go_wp2_with (first | (go_at_call 17; (with_reducible refine (customsref33_SameBytes.calls _ _ (rd_L1 l0 x5_1) _ _ (rd_L1 l1 x5_1) true _ ?side1 ?side2 ?side3 ?side4 A7.out).mono ?_); (case side1 => exact pC HR415_0.out); (case side2 => exact HC415_0.out); (case side3 => exact pC HR416_0.out); (case side4 => exact HC416_0.out); rintro e w' ⟨rfl, ⟨nd, rfl⟩⟩; (try first | exact ⟨rfl, _, World.drewN_drewN _ _ _⟩ | exact ⟨rfl, _, Eq.trans (World.drewN_drewN _ _ _) (congrArg (World.drewN _) (Nat.add_assoc _ _ _))⟩))))
            go_roundg k1
            case measure => have := HK1.out; omega
            case rel => exact ⟨(wrap64 (x5_1 + 1)), (by first | rfl | (simp; done) | (simp [*]; done)), H', ⟨by have := HK1.out; omega⟩, by repeat (first | exact Drawn0.refl _ | apply Drawn0.step)⟩
          · replace c8 := Bool.eq_false_iff.mpr c8
            subst c8
            have H1 : (some false) = some r := by rw [if_neg (show ¬ (false = true) by decide)] at H; exact H
            clear H
            have H := H1
            clear H1
            obtain rfl := Option.some.inj H
            have p415 : 0 ≤ (x5_1 : Int) := of_decide_eq_true (by first | (with_reducible assumption) | assumption)
            have q415 : x5_1 < (l0.length : Int) := of_decide_eq_true (by first | (with_reducible assumption) | assumption)
            obtain ⟨ad415, A415_0, c415_0, e415, hx415_0, hl415_0, hi415_0⟩ := at_L1 HR0.out x5_1 p415 q415
            cases e415
            have HR415_0 := Aside0.mk hi415_0
            have HC415_0 := Aside0.mk hl415_0
            clear hi415_0 hl415_0
            replace p415 := eq_true p415
            replace q415 := eq_true q415
            have p416 : 0 ≤ (x5_1 : Int) := of_decide_eq_true (by first | (with_reducible assumption) | assumption)
            have q416 : x5_1 < (l1.length : Int) := of_decide_eq_true (by first | (with_reducible assumption) | assumption)
            obtain ⟨ad416, A416_0, c416_0, e416, hx416_0, hl416_0, hi416_0⟩ := at_L1 HR1.out x5_1 p416 q416
            cases e416
            have HR416_0 := Aside0.mk hi416_0
            have HC416_0 := Aside0.mk hl416_0
            clear hi416_0 hl416_0
            replace p416 := eq_true p416
            replace q416 := eq_true q416
            go_wp2_with (first | (go_at_call 17; (with_reducible refine (customsref33_SameBytes.calls _ _ (rd_L1 l0 x5_1) _ _ (rd_L1 l1 x5_1) false _ ?side1 ?side2 ?side3 ?side4 A7.out).mono ?_); (case side1 => exact pC HR415_0.out); (case side2 => exact HC415_0.out); (case side3 => exact pC HR416_0.out); (case side4 => exact HC416_0.out); rintro e w' ⟨rfl, ⟨nd, rfl⟩⟩; (try first | exact ⟨rfl, _, World.drewN_drewN _ _ _⟩ | exact ⟨rfl, _, Eq.trans (World.drewN_drewN _ _ _) (congrArg (World.drewN _) (Nat.add_assoc _ _ _))⟩)))
            repeat (go_quiet (first | (go_at_call 17; (with_reducible refine (customsref33_SameBytes.calls _ _ (rd_L1 l0 x5_1) _ _ (rd_L1 l1 x5_1) false _ ?side1 ?side2 ?side3 ?side4 A7.out).mono ?_); (case side1 => exact pC HR415_0.out); (case side2 => exact HC415_0.out); (case side3 => exact pC HR416_0.out); (case side4 => exact HC416_0.out); rintro e w' ⟨rfl, ⟨nd, rfl⟩⟩; (try first | exact ⟨rfl, _, World.drewN_drewN _ _ _⟩ | exact ⟨rfl, _, Eq.trans (World.drewN_drewN _ _ _) (congrArg (World.drewN _) (Nat.add_assoc _ _ _))⟩))); try go_wp2_with (first | (go_at_call 17; (with_reducible refine (customsref33_SameBytes.calls _ _ (rd_L1 l0 x5_1) _ _ (rd_L1 l1 x5_1) false _ ?side1 ?side2 ?side3 ?side4 A7.out).mono ?_); (case side1 => exact pC HR415_0.out); (case side2 => exact HC415_0.out); (case side3 => exact pC HR416_0.out); (case side4 => exact HC416_0.out); rintro e w' ⟨rfl, ⟨nd, rfl⟩⟩; (try first | exact ⟨rfl, _, World.drewN_drewN _ _ _⟩ | exact ⟨rfl, _, Eq.trans (World.drewN_drewN _ _ _) (congrArg (World.drewN _) (Nat.add_assoc _ _ _))⟩))))
            go_ret
            exact ⟨by first | rfl | (simp; done) | (simp [*]; done), by repeat (first | exact Drawn0.refl _ | apply Drawn0.step)⟩
        · rw [if_neg c4] at H
          have c4b0 : decide (x5_1 < (l0.length : Int)) = false := decide_eq_false c4
          clear c4
          obtain rfl := Option.some.inj H
          go_wp2
          repeat (go_quiet (fail); try go_wp2)
          go_ret
          exact ⟨by first | rfl | (simp; done) | (simp [*]; done), by repeat (first | exact Drawn0.refl _ | apply Drawn0.step)⟩
  · rw [if_neg c3] at H
    have c3b0 : ((l0.length : Int) == (l1.length : Int)) = false := beq_eq_false_iff_ne.mpr c3
    have c3b1 : ((l0.length : Int) != (l1.length : Int)) = true := bne_iff_ne.mpr c3
    have c3b2 : (l0.length == l1.length) = false := by first | simpa using c3 | (simp at c3 ⊢; omega)
    obtain rfl := Option.some.inj H
    go_enter Try.func40, Try.ntmps40
    go_wp2
    repeat (go_quiet (fail); try go_wp2)
    go_ret
    exact ⟨by first | rfl | (simp; done) | (simp [*]; done), by repeat (first | exact Drawn0.refl _ | apply Drawn0.step)⟩

end Go.Proofs.Ythnlepmfjhhgfaa.PJournalOpen
