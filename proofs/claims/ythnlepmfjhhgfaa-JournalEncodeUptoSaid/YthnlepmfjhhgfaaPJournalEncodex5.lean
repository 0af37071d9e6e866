-- Printed by a patched copy of the kit's printer (wip/prt); nothing here is trusted, Lean checks it.
import Derived.Test.YthnlepmfjhhgfaaPJournalEncodex0
import Derived.Test.YthnlepmfjhhgfaaPJournalEncodex1
import Derived.Test.YthnlepmfjhhgfaaPJournalEncodex2
import Derived.Test.YthnlepmfjhhgfaaPJournalEncodex3
import Derived.Test.YthnlepmfjhhgfaaPJournalEncodex4
namespace Go.Proofs.Ythnlepmfjhhgfaa.PJournalEncode
open Go.RowKit Go.Proofs.YthnlepmfjhhgfaaW.PrintWords Go.Proofs.YthnlepmfjhhgfaaW.PrintLast Go.Proofs.YthnlepmfjhhgfaaW.PrintMore
attribute [local go_sem] max2_int min2_int max_two min_two max_three min_three max_four min_four   -- for this text's walks alone
set_option linter.unusedVariables false
set_option linter.unusedSimpArgs false

/-! ### customslaw34_JournalEncode: function 7 -/
mutual
def customslaw34_JournalEncode.j0 : Nat → List (S43) → List (S43) → Bool → Option (Bool)
  | 0, _, _, _ => none
  | k + 1, x9, x11, x54 => if x54 = true then (some false) else (customslaw34_JournalEncode.l0 k x9 x11 0)
def customslaw34_JournalEncode.l0 : Nat → List (S43) → List (S43) → Int → Option (Bool)
  | 0, _, _, _ => none
  | k + 1, x9, x11, x13 => if x13 < (x9.length : Int) then (if 0 ≤ x13 then (if x13 < (x11.length : Int) then (if ((rd_T43 x9 x13).f0) = ((rd_T43 x11 x13).f0) then ((customsref33_SameBytes.f ((rd_T43 x9 x13).f1) ((rd_T43 x11 x13).f1)).bind fun t335 => (if t335 = true then (customslaw34_JournalEncode.l0 k x9 x11 (wrap64 (x13 + 1))) else (some false))) else (some false)) else (none)) else (none)) else ((customslaw34_awake.f k).bind fun t336 => (some t336))
end
def customslaw34_JournalEncode.f (k : Nat) (a0_0 : Int) (l0_1 : List Int) (l1 : List Int) : Option (Bool) := (journal_Encode.f k a0_0 l0_1).bind fun bt314 => ((customsref33_Encode.f k a0_0 l0_1).bind fun bt318 => ((journal_Scan.f k l1).bind fun bt322 => ((customsref33_Scan.f k l1).bind fun bt326 => (if bt314.2 = bt318.2 then ((customsref33_SameBytes.f bt314.1 bt318.1).bind fun t330 => (if t330 = true then (if bt322.2 = bt326.2 then (customslaw34_JournalEncode.j0 k bt322.1 bt326.1 ((bt322.1.length : Int) != (bt326.1.length : Int))) else (customslaw34_JournalEncode.j0 k bt322.1 bt326.1 true)) else (customslaw34_JournalEncode.j0 k bt322.1 bt326.1 true))) else (customslaw34_JournalEncode.j0 k bt322.1 bt326.1 true)))))
theorem customslaw34_JournalEncode.mono_l : ∀ k, (∀ y0 y1 y2, LeO (customslaw34_JournalEncode.j0 k y0 y1 y2) (customslaw34_JournalEncode.j0 (k + 1) y0 y1 y2)) ∧ (∀ y0 y1 y2, LeO (customslaw34_JournalEncode.l0 k y0 y1 y2) (customslaw34_JournalEncode.l0 (k + 1) y0 y1 y2))
  | 0 => ⟨fun _ _ _ r h => by simp [customslaw34_JournalEncode.j0] at h, fun _ _ _ r h => by simp [customslaw34_JournalEncode.l0] at h⟩
  | k + 1 => by
    obtain ⟨ih0, ih1⟩ := customslaw34_JournalEncode.mono_l k
    refine ⟨?_, ?_⟩
    · intro y0 y1 y2
      unfold customslaw34_JournalEncode.j0
      repeat' first
      | (with_reducible exact ih0 _ _ _)
      | (with_reducible exact ih1 _ _ _)
      | (with_reducible exact customslaw34_awake.mono _)
      | (with_reducible exact customsref33_Encode.mono _ _ _)
      | (with_reducible exact customsref33_Scan.mono _ _)
      | (with_reducible exact journal_Encode.mono _ _ _)
      | (with_reducible exact journal_Scan.mono _ _)
      | (with_reducible exact LeO.refl _)
      | (with_reducible exact LeO.none _)
      | (with_reducible refine LeO.ite ?_ ?_)
      | (with_reducible refine LeO.bind ?_ (fun _ => ?_))
      | exact ih0 _ _ _
      | exact ih1 _ _ _
      | exact customslaw34_awake.mono _
      | exact customsref33_Encode.mono _ _ _
      | exact customsref33_Scan.mono _ _
      | exact journal_Encode.mono _ _ _
      | exact journal_Scan.mono _ _
      | exact LeO.none _
      | refine LeO.ite ?_ ?_
      | refine LeO.bind ?_ (fun _ => ?_)
    · intro y0 y1 y2
      unfold customslaw34_JournalEncode.l0
      repeat' first
      | (with_reducible exact ih0 _ _ _)
      | (with_reducible exact ih1 _ _ _)
      | (with_reducible exact customslaw34_awake.mono _)
      | (with_reducible exact customsref33_Encode.mono _ _ _)
      | (with_reducible exact customsref33_Scan.mono _ _)
      | (with_reducible exact journal_Encode.mono _ _ _)
      | (with_reducible exact journal_Scan.mono _ _)
      | (with_reducible exact LeO.refl _)
      | (with_reducible exact LeO.none _)
      | (with_reducible refine LeO.ite ?_ ?_)
      | (with_reducible refine LeO.bind ?_ (fun _ => ?_))
      | exact ih0 _ _ _
      | exact ih1 _ _ _
      | exact customslaw34_awake.mono _
      | exact customsref33_Encode.mono _ _ _
      | exact customsref33_Scan.mono _ _
      | exact journal_Encode.mono _ _ _
      | exact journal_Scan.mono _ _
      | exact LeO.none _
      | refine LeO.ite ?_ ?_
      | refine LeO.bind ?_ (fun _ => ?_)
theorem customslaw34_JournalEncode.mono : ∀ a0 a1 a2 k, LeO (customslaw34_JournalEncode.f k a0 a1 a2) (customslaw34_JournalEncode.f (k + 1) a0 a1 a2) := by
  intro a0 a1 a2 k
  obtain ⟨ih0, ih1⟩ := customslaw34_JournalEncode.mono_l k
  unfold customslaw34_JournalEncode.f
  repeat' first
      | (with_reducible exact ih0 _ _ _)
      | (with_reducible exact ih1 _ _ _)
      | (with_reducible exact customslaw34_awake.mono _)
      | (with_reducible exact customsref33_Encode.mono _ _ _)
      | (with_reducible exact customsref33_Scan.mono _ _)
      | (with_reducible exact journal_Encode.mono _ _ _)
      | (with_reducible exact journal_Scan.mono _ _)
      | (with_reducible exact LeO.refl _)
      | (with_reducible exact LeO.none _)
      | (with_reducible refine LeO.ite ?_ ?_)
      | (with_reducible refine LeO.bind ?_ (fun _ => ?_))
      | exact ih0 _ _ _
      | exact ih1 _ _ _
      | exact customslaw34_awake.mono _
      | exact customsref33_Encode.mono _ _ _
      | exact customsref33_Scan.mono _ _
      | exact journal_Encode.mono _ _ _
      | exact journal_Scan.mono _ _
      | exact LeO.none _
      | refine LeO.ite ?_ ?_
      | refine LeO.bind ?_ (fun _ => ?_)
set_option maxHeartbeats 8000000 in
set_option maxRecDepth 100000 in
theorem customslaw34_JournalEncode.calls (k : Nat) (a0_0 : Int) (A0_1 : Option Addr) (c0_1 : Nat) (l0_1 : List Int) (A1 : Option Addr) (c1 : Nat) (l1 : List Int) (w : World) (hr0_1 : Kd.C (Kd.int .u8) w A0_1 l0_1.length l0_1) (hc0_1 : l0_1.length ≤ c0_1) (hr1 : Kd.C (Kd.int .u8) w A1 l1.length l1) (hc1 : l1.length ≤ c1) (h : customslaw34_JournalEncode.f k a0_0 l0_1 l1 = some true) :
    Calls Try.prog 7 #[.agg #[.int .i64 a0_0, .slice A0_1 l0_1.length c0_1], .slice A1 l1.length c1] w fun e w' => e = .returned (.bool true) ∧ Below w.heap.size w w' := by
  have hu43 := Try.underlying43
  have HR0_1 := Aside0.mk hr0_1
  have HC0_1 := Aside0.mk hc0_1
  clear hr0_1 hc0_1
  have HR1 := Aside0.mk hr1
  have HC1 := Aside0.mk hc1
  clear hr1 hc1
  have HB := Aside0.mk (Below.refl w.heap.size w)
  have H : ((journal_Encode.f k a0_0 l0_1).bind fun bt314 => ((customsref33_Encode.f k a0_0 l0_1).bind fun bt318 => ((journal_Scan.f k l1).bind fun bt322 => ((customsref33_Scan.f k l1).bind fun bt326 => (if bt314.2 = bt318.2 then ((customsref33_SameBytes.f bt314.1 bt318.1).bind fun t330 => (if t330 = true then (if bt322.2 = bt326.2 then (customslaw34_JournalEncode.j0 k bt322.1 bt326.1 ((bt322.1.length : Int) != (bt326.1.length : Int))) else (customslaw34_JournalEncode.j0 k bt322.1 bt326.1 true)) else (customslaw34_JournalEncode.j0 k bt322.1 bt326.1 true))) else (customslaw34_JournalEncode.j0 k bt322.1 bt326.1 true)))))) = some true := h
  clear h
  replace H := Option.bind_eq_some_iff.mp H
  obtain ⟨⟨t314, t317⟩, A30, H⟩ := H
  replace H : ((customsref33_Encode.f k a0_0 l0_1).bind fun bt318 => ((journal_Scan.f k l1).bind fun bt322 => ((customsref33_Scan.f k l1).bind fun bt326 => (if t317 = bt318.2 then ((customsref33_SameBytes.f t314 bt318.1).bind fun t330 => (if t330 = true then (if bt322.2 = bt326.2 then (customslaw34_JournalEncode.j0 k bt322.1 bt326.1 ((bt322.1.length : Int) != (bt326.1.length : Int))) else (customslaw34_JournalEncode.j0 k bt322.1 bt326.1 true)) else (customslaw34_JournalEncode.j0 k bt322.1 bt326.1 true))) else (customslaw34_JournalEncode.j0 k bt322.1 bt326.1 true))))) = some true := H
  have A3 := Aside0.mk A30
  clear A30
  replace H := Option.bind_eq_some_iff.mp H
  obtain ⟨⟨t318, t321⟩, A40, H⟩ := H
  replace H : ((journal_Scan.f k l1).bind fun bt322 => ((customsref33_Scan.f k l1).bind fun bt326 => (if t317 = t321 then ((customsref33_SameBytes.f t314 t318).bind fun t330 => (if t330 = true then (if bt322.2 = bt326.2 then (customslaw34_JournalEncode.j0 k bt322.1 bt326.1 ((bt322.1.length : Int) != (bt326.1.length : Int))) else (customslaw34_JournalEncode.j0 k bt322.1 bt326.1 true)) else (customslaw34_JournalEncode.j0 k bt322.1 bt326.1 true))) else (customslaw34_JournalEncode.j0 k bt322.1 bt326.1 true)))) = some true := H
  have A4 := Aside0.mk A40
  clear A40
  replace H := Option.bind_eq_some_iff.mp H
  obtain ⟨⟨t322, t323⟩, A50, H⟩ := H
  replace H : ((customsref33_Scan.f k l1).bind fun bt326 => (if t317 = t321 then ((customsref33_SameBytes.f t314 t318).bind fun t330 => (if t330 = true then (if t323 = bt326.2 then (customslaw34_JournalEncode.j0 k t322 bt326.1 ((t322.length : Int) != (bt326.1.length : Int))) else (customslaw34_JournalEncode.j0 k t322 bt326.1 true)) else (customslaw34_JournalEncode.j0 k t322 bt326.1 true))) else (customslaw34_JournalEncode.j0 k t322 bt326.1 true))) = some true := H
  have A5 := Aside0.mk A50
  clear A50
  replace H := Option.bind_eq_some_iff.mp H
  obtain ⟨⟨t326, t327⟩, A60, H⟩ := H
  replace H : (if t317 = t321 then ((customsref33_SameBytes.f t314 t318).bind fun t330 => (if t330 = true then (if t323 = t327 then (customslaw34_JournalEncode.j0 k t322 t326 ((t322.length : Int) != (t326.length : Int))) else (customslaw34_JournalEncode.j0 k t322 t326 true)) else (customslaw34_JournalEncode.j0 k t322 t326 true))) else (customslaw34_JournalEncode.j0 k t322 t326 true)) = some true := H
  have A6 := Aside0.mk A60
  clear A60
  have HC7 := Aside0.mk H
  clear H
  go_enter Try.func7, Try.ntmps7
  go_upto_region 5 with (first | ((with_reducible refine gate_dst (N := 2) rfl ?_); (try (refine gate_guard (by rfl) ?_; dsimp only)); refine box_event ?hg (N := 2) ?hd (cs := #[.int .i64 a0_0, .slice A0_1 l0_1.length c0_1]) (t := 43) ?hr ?_; (case hd => rfl); (case hg => rfl); (case hr => first | (go_simp; done) | (go_simp; rfl)); intro gb313 hg w8 hbox hb; have n0_ := Aside0.mk (below_step (by exact pB HB.out) hb); have n1_ := Aside0.mk (hbox); have n2_ := Aside0.mk ((by rw [hg]; exact (below_size (by exact pB HB.out)) : w.heap.size ≤ gb313)); have n3_ := Aside0.mk ((by rw [hg]; exact (below_size (by exact pB HB.out)) : w.heap.size ≤ gb313)); clear HB; have HB := n0_; have BK313 := n1_; have GW313 := n2_; have GE313 := n3_; clear n0_ n1_ n2_ n3_; clear hb hbox hg; have hcz9_0 : w8.cell? ⟨gb313, 0, none⟩ = some (.int .i64 a0_0) := (blk_cell BK313.out 0).trans rfl; have hcz9_1 : w8.cell? ⟨gb313, 1, none⟩ = some (.slice A0_1 l0_1.length c0_1) := (blk_cell BK313.out 1).trans rfl; have hfz9_0 := blk_frozen BK313.out 0; have hfz9_1 := blk_frozen BK313.out 1) | (go_at_call 28; (with_reducible refine (journal_Encode.calls k a0_0 _ _ l0_1 t314 t317 _ ?side1 ?side2 A3.out).mono ?_); (case side1 => exact pC (Kd.C_below HR0_1.out HB.out)); (case side2 => exact HC0_1.out); rintro e w10 ⟨v315, rfl, ho0, hb⟩; have n0_ := Aside0.mk (Kd.R_lower ho0 (below_size (by exact pB HB.out))); have n1_ := Aside0.mk (blk_below (g := gb313) (o := .cells #[.int .i64 a0_0, .slice A0_1 l0_1.length c0_1] 43 (0, 0)) (by exact pK BK313.out) hb); have n2_ := Aside0.mk (below_step (by exact pB HB.out) hb); clear BK313; clear HB; have HO316 := n0_; have BK313 := n1_; have HB := n2_; clear n0_ n1_ n2_; (try clear hb); (try clear hb2); (try clear hk); (try clear hi); (try clear ho0); have hcz11_0 : w10.cell? ⟨gb313, 0, none⟩ = some (.int .i64 a0_0) := (blk_cell BK313.out 0).trans rfl; have hcz11_1 : w10.cell? ⟨gb313, 1, none⟩ = some (.slice A0_1 l0_1.length c0_1) := (blk_cell BK313.out 1).trans rfl; have hfz11_0 := blk_frozen BK313.out 0; have hfz11_1 := blk_frozen BK313.out 1) | (go_at_call 29; (with_reducible refine (customsref33_Encode.calls k a0_0 _ _ l0_1 t318 t321 _ ?side1 ?side2 A4.out).mono ?_); (case side1 => exact pC (Kd.C_below HR0_1.out HB.out)); (case side2 => exact HC0_1.out); rintro e w12 ⟨v319, rfl, ho0, hb⟩; have n0_ := Aside0.mk (Kd.R_elder' (by exact pR HO316.out) (Kd.R_base ho0) hb); have n1_ := Aside0.mk (Kd.R_lower (Kd.R_new' ho0 (Kd.R_lt (by exact pR HO316.out))) (below_size (by exact pB HB.out))); have n2_ := Aside0.mk (blk_below (g := gb313) (o := .cells #[.int .i64 a0_0, .slice A0_1 l0_1.length c0_1] 43 (0, 0)) (by exact pK BK313.out) hb); have n3_ := Aside0.mk (below_step (by exact pB HB.out) hb); clear HO316; clear BK313; clear HB; have HO316 := n0_; have HO320 := n1_; have BK313 := n2_; have HB := n3_; clear n0_ n1_ n2_ n3_; (try clear hb); (try clear hb2); (try clear hk); (try clear hi); (try clear ho0)) | (go_at_call 30; (with_reducible refine (journal_Scan.calls k _ _ l1 t322 t323 _ ?side1 ?side2 A5.out).mono ?_); (case side1 => exact pC (Kd.C_below HR1.out HB.out)); (case side2 => exact HC1.out); rintro e w13 ⟨v324, rfl, ho0, hb⟩; have n0_ := Aside0.mk (Kd.R_below (by exact pR HO316.out) hb); have n1_ := Aside0.mk (Kd.R_below (by exact pR HO320.out) hb); have n2_ := Aside0.mk (Kd.S_lower (Kd.S_newB (Kd.S_new' (Kd.S_new' ho0 (Kd.R_lt (by exact pR HO316.out))) (Kd.R_lt (by exact pR HO320.out))) (g := gb313) (o := .cells #[.int .i64 a0_0, .slice A0_1 l0_1.length c0_1] 43 (0, 0)) (by exact pK BK313.out)) (below_size (by exact pB HB.out))); have n3_ := Aside0.mk (blk_below (g := gb313) (o := .cells #[.int .i64 a0_0, .slice A0_1 l0_1.length c0_1] 43 (0, 0)) (by exact pK BK313.out) hb); have n4_ := Aside0.mk (below_step (by exact pB HB.out) hb); clear HO316; clear HO320; clear BK313; clear HB; have HO316 := n0_; have HO320 := n1_; have HO325 := n2_; have BK313 := n3_; have HB := n4_; clear n0_ n1_ n2_ n3_ n4_; (try clear hb); (try clear hb2); (try clear hk); (try clear hi); (try clear ho0)) | (go_at_call 31; (with_reducible refine (customsref33_Scan.calls k _ _ l1 t326 t327 _ ?side1 ?side2 A6.out).mono ?_); (case side1 => exact pC (Kd.C_below HR1.out HB.out)); (case side2 => exact HC1.out); rintro e w14 ⟨v328, rfl, ho0, hb⟩; have n0_ := Aside0.mk (Kd.R_below (by exact pR HO316.out) hb); have n1_ := Aside0.mk (Kd.R_below (by exact pR HO320.out) hb); have n2_ := Aside0.mk (Kd.S_elder' (by exact pS HO325.out) (Kd.S_base ho0) hb); have n3_ := Aside0.mk (Kd.S_lower (Kd.S_newB (Kd.S_new' (Kd.S_new' (Kd.S_new' ho0 (Kd.R_lt (by exact pR HO316.out))) (Kd.R_lt (by exact pR HO320.out))) (Kd.S_lt (by exact pS HO325.out))) (g := gb313) (o := .cells #[.int .i64 a0_0, .slice A0_1 l0_1.length c0_1] 43 (0, 0)) (by exact pK BK313.out)) (below_size (by exact pB HB.out))); have n4_ := Aside0.mk (blk_below (g := gb313) (o := .cells #[.int .i64 a0_0, .slice A0_1 l0_1.length c0_1] 43 (0, 0)) (by exact pK BK313.out) hb); have n5_ := Aside0.mk (below_step (by exact pB HB.out) hb); clear HO316; clear HO320; clear HO325; clear BK313; clear HB; have HO316 := n0_; have HO320 := n1_; have HO325 := n2_; have HO329 := n3_; have BK313 := n4_; have HB := n5_; clear n0_ n1_ n2_ n3_ n4_ n5_; (try clear hb); (try clear hb2); (try clear hk); (try clear hi); (try clear ho0)))
  repeat (go_quiet (first | ((with_reducible refine gate_dst (N := 2) rfl ?_); (try (refine gate_guard (by rfl) ?_; dsimp only)); refine box_event ?hg (N := 2) ?hd (cs := #[.int .i64 a0_0, .slice A0_1 l0_1.length c0_1]) (t := 43) ?hr ?_; (case hd => rfl); (case hg => rfl); (case hr => first | (go_simp; done) | (go_simp; rfl)); intro gb313 hg w8 hbox hb; have n0_ := Aside0.mk (below_step (by exact pB HB.out) hb); have n1_ := Aside0.mk (hbox); have n2_ := Aside0.mk ((by rw [hg]; exact (below_size (by exact pB HB.out)) : w.heap.size ≤ gb313)); have n3_ := Aside0.mk ((by rw [hg]; exact (below_size (by exact pB HB.out)) : w.heap.size ≤ gb313)); clear HB; have HB := n0_; have BK313 := n1_; have GW313 := n2_; have GE313 := n3_; clear n0_ n1_ n2_ n3_; clear hb hbox hg; have hcz9_0 : w8.cell? ⟨gb313, 0, none⟩ = some (.int .i64 a0_0) := (blk_cell BK313.out 0).trans rfl; have hcz9_1 : w8.cell? ⟨gb313, 1, none⟩ = some (.slice A0_1 l0_1.length c0_1) := (blk_cell BK313.out 1).trans rfl; have hfz9_0 := blk_frozen BK313.out 0; have hfz9_1 := blk_frozen BK313.out 1) | (go_at_call 28; (with_reducible refine (journal_Encode.calls k a0_0 _ _ l0_1 t314 t317 _ ?side1 ?side2 A3.out).mono ?_); (case side1 => exact pC (Kd.C_below HR0_1.out HB.out)); (case side2 => exact HC0_1.out); rintro e w10 ⟨v315, rfl, ho0, hb⟩; have n0_ := Aside0.mk (Kd.R_lower ho0 (below_size (by exact pB HB.out))); have n1_ := Aside0.mk (blk_below (g := gb313) (o := .cells #[.int .i64 a0_0, .slice A0_1 l0_1.length c0_1] 43 (0, 0)) (by exact pK BK313.out) hb); have n2_ := Aside0.mk (below_step (by exact pB HB.out) hb); clear BK313; clear HB; have HO316 := n0_; have BK313 := n1_; have HB := n2_; clear n0_ n1_ n2_; (try clear hb); (try clear hb2); (try clear hk); (try clear hi); (try clear ho0); have hcz11_0 : w10.cell? ⟨gb313, 0, none⟩ = some (.int .i64 a0_0) := (blk_cell BK313.out 0).trans rfl; have hcz11_1 : w10.cell? ⟨gb313, 1, none⟩ = some (.slice A0_1 l0_1.length c0_1) := (blk_cell BK313.out 1).trans rfl; have hfz11_0 := blk_frozen BK313.out 0; have hfz11_1 := blk_frozen BK313.out 1) | (go_at_call 29; (with_reducible refine (customsref33_Encode.calls k a0_0 _ _ l0_1 t318 t321 _ ?side1 ?side2 A4.out).mono ?_); (case side1 => exact pC (Kd.C_below HR0_1.out HB.out)); (case side2 => exact HC0_1.out); rintro e w12 ⟨v319, rfl, ho0, hb⟩; have n0_ := Aside0.mk (Kd.R_elder' (by exact pR HO316.out) (Kd.R_base ho0) hb); have n1_ := Aside0.mk (Kd.R_lower (Kd.R_new' ho0 (Kd.R_lt (by exact pR HO316.out))) (below_size (by exact pB HB.out))); have n2_ := Aside0.mk (blk_below (g := gb313) (o := .cells #[.int .i64 a0_0, .slice A0_1 l0_1.length c0_1] 43 (0, 0)) (by exact pK BK313.out) hb); have n3_ := Aside0.mk (below_step (by exact pB HB.out) hb); clear HO316; clear BK313; clear HB; have HO316 := n0_; have HO320 := n1_; have BK313 := n2_; have HB := n3_; clear n0_ n1_ n2_ n3_; (try clear hb); (try clear hb2); (try clear hk); (try clear hi); (try clear ho0)) | (go_at_call 30; (with_reducible refine (journal_Scan.calls k _ _ l1 t322 t323 _ ?side1 ?side2 A5.out).mono ?_); (case side1 => exact pC (Kd.C_below HR1.out HB.out)); (case side2 => exact HC1.out); rintro e w13 ⟨v324, rfl, ho0, hb⟩; have n0_ := Aside0.mk (Kd.R_below (by exact pR HO316.out) hb); have n1_ := Aside0.mk (Kd.R_below (by exact pR HO320.out) hb); have n2_ := Aside0.mk (Kd.S_lower (Kd.S_newB (Kd.S_new' (Kd.S_new' ho0 (Kd.R_lt (by exact pR HO316.out))) (Kd.R_lt (by exact pR HO320.out))) (g := gb313) (o := .cells #[.int .i64 a0_0, .slice A0_1 l0_1.length c0_1] 43 (0, 0)) (by exact pK BK313.out)) (below_size (by exact pB HB.out))); have n3_ := Aside0.mk (blk_below (g := gb313) (o := .cells #[.int .i64 a0_0, .slice A0_1 l0_1.length c0_1] 43 (0, 0)) (by exact pK BK313.out) hb); have n4_ := Aside0.mk (below_step (by exact pB HB.out) hb); clear HO316; clear HO320; clear BK313; clear HB; have HO316 := n0_; have HO320 := n1_; have HO325 := n2_; have BK313 := n3_; have HB := n4_; clear n0_ n1_ n2_ n3_ n4_; (try clear hb); (try clear hb2); (try clear hk); (try clear hi); (try clear ho0)) | (go_at_call 31; (with_reducible refine (customsref33_Scan.calls k _ _ l1 t326 t327 _ ?side1 ?side2 A6.out).mono ?_); (case side1 => exact pC (Kd.C_below HR1.out HB.out)); (case side2 => exact HC1.out); rintro e w14 ⟨v328, rfl, ho0, hb⟩; have n0_ := Aside0.mk (Kd.R_below (by exact pR HO316.out) hb); have n1_ := Aside0.mk (Kd.R_below (by exact pR HO320.out) hb); have n2_ := Aside0.mk (Kd.S_elder' (by exact pS HO325.out) (Kd.S_base ho0) hb); have n3_ := Aside0.mk (Kd.S_lower (Kd.S_newB (Kd.S_new' (Kd.S_new' (Kd.S_new' ho0 (Kd.R_lt (by exact pR HO316.out))) (Kd.R_lt (by exact pR HO320.out))) (Kd.S_lt (by exact pS HO325.out))) (g := gb313) (o := .cells #[.int .i64 a0_0, .slice A0_1 l0_1.length c0_1] 43 (0, 0)) (by exact pK BK313.out)) (below_size (by exact pB HB.out))); have n4_ := Aside0.mk (blk_below (g := gb313) (o := .cells #[.int .i64 a0_0, .slice A0_1 l0_1.length c0_1] 43 (0, 0)) (by exact pK BK313.out) hb); have n5_ := Aside0.mk (below_step (by exact pB HB.out) hb); clear HO316; clear HO320; clear HO325; clear BK313; clear HB; have HO316 := n0_; have HO320 := n1_; have HO325 := n2_; have HO329 := n3_; have BK313 := n4_; have HB := n5_; clear n0_ n1_ n2_ n3_ n4_ n5_; (try clear hb); (try clear hb2); (try clear hk); (try clear hi); (try clear ho0))); go_upto_region 5 with (first | ((with_reducible refine gate_dst (N := 2) rfl ?_); (try (refine gate_guard (by rfl) ?_; dsimp only)); refine box_event ?hg (N := 2) ?hd (cs := #[.int .i64 a0_0, .slice A0_1 l0_1.length c0_1]) (t := 43) ?hr ?_; (case hd => rfl); (case hg => rfl); (case hr => first | (go_simp; done) | (go_simp; rfl)); intro gb313 hg w8 hbox hb; have n0_ := Aside0.mk (below_step (by exact pB HB.out) hb); have n1_ := Aside0.mk (hbox); have n2_ := Aside0.mk ((by rw [hg]; exact (below_size (by exact pB HB.out)) : w.heap.size ≤ gb313)); have n3_ := Aside0.mk ((by rw [hg]; exact (below_size (by exact pB HB.out)) : w.heap.size ≤ gb313)); clear HB; have HB := n0_; have BK313 := n1_; have GW313 := n2_; have GE313 := n3_; clear n0_ n1_ n2_ n3_; clear hb hbox hg; have hcz9_0 : w8.cell? ⟨gb313, 0, none⟩ = some (.int .i64 a0_0) := (blk_cell BK313.out 0).trans rfl; have hcz9_1 : w8.cell? ⟨gb313, 1, none⟩ = some (.slice A0_1 l0_1.length c0_1) := (blk_cell BK313.out 1).trans rfl; have hfz9_0 := blk_frozen BK313.out 0; have hfz9_1 := blk_frozen BK313.out 1) | (go_at_call 28; (with_reducible refine (journal_Encode.calls k a0_0 _ _ l0_1 t314 t317 _ ?side1 ?side2 A3.out).mono ?_); (case side1 => exact pC (Kd.C_below HR0_1.out HB.out)); (case side2 => exact HC0_1.out); rintro e w10 ⟨v315, rfl, ho0, hb⟩; have n0_ := Aside0.mk (Kd.R_lower ho0 (below_size (by exact pB HB.out))); have n1_ := Aside0.mk (blk_below (g := gb313) (o := .cells #[.int .i64 a0_0, .slice A0_1 l0_1.length c0_1] 43 (0, 0)) (by exact pK BK313.out) hb); have n2_ := Aside0.mk (below_step (by exact pB HB.out) hb); clear BK313; clear HB; have HO316 := n0_; have BK313 := n1_; have HB := n2_; clear n0_ n1_ n2_; (try clear hb); (try clear hb2); (try clear hk); (try clear hi); (try clear ho0); have hcz11_0 : w10.cell? ⟨gb313, 0, none⟩ = some (.int .i64 a0_0) := (blk_cell BK313.out 0).trans rfl; have hcz11_1 : w10.cell? ⟨gb313, 1, none⟩ = some (.slice A0_1 l0_1.length c0_1) := (blk_cell BK313.out 1).trans rfl; have hfz11_0 := blk_frozen BK313.out 0; have hfz11_1 := blk_frozen BK313.out 1) | (go_at_call 29; (with_reducible refine (customsref33_Encode.calls k a0_0 _ _ l0_1 t318 t321 _ ?side1 ?side2 A4.out).mono ?_); (case side1 => exact pC (Kd.C_below HR0_1.out HB.out)); (case side2 => exact HC0_1.out); rintro e w12 ⟨v319, rfl, ho0, hb⟩; have n0_ := Aside0.mk (Kd.R_elder' (by exact pR HO316.out) (Kd.R_base ho0) hb); have n1_ := Aside0.mk (Kd.R_lower (Kd.R_new' ho0 (Kd.R_lt (by exact pR HO316.out))) (below_size (by exact pB HB.out))); have n2_ := Aside0.mk (blk_below (g := gb313) (o := .cells #[.int .i64 a0_0, .slice A0_1 l0_1.length c0_1] 43 (0, 0)) (by exact pK BK313.out) hb); have n3_ := Aside0.mk (below_step (by exact pB HB.out) hb); clear HO316; clear BK313; clear HB; have HO316 := n0_; have HO320 := n1_; have BK313 := n2_; have HB := n3_; clear n0_ n1_ n2_ n3_; (try clear hb); (try clear hb2); (try clear hk); (try clear hi); (try clear ho0)) | (go_at_call 30; (with_reducible refine (journal_Scan.calls k _ _ l1 t322 t323 _ ?side1 ?side2 A5.out).mono ?_); (case side1 => exact pC (Kd.C_below HR1.out HB.out)); (case side2 => exact HC1.out); rintro e w13 ⟨v324, rfl, ho0, hb⟩; have n0_ := Aside0.mk (Kd.R_below (by exact pR HO316.out) hb); have n1_ := Aside0.mk (Kd.R_below (by exact pR HO320.out) hb); have n2_ := Aside0.mk (Kd.S_lower (Kd.S_newB (Kd.S_new' (Kd.S_new' ho0 (Kd.R_lt (by exact pR HO316.out))) (Kd.R_lt (by exact pR HO320.out))) (g := gb313) (o := .cells #[.int .i64 a0_0, .slice A0_1 l0_1.length c0_1] 43 (0, 0)) (by exact pK BK313.out)) (below_size (by exact pB HB.out))); have n3_ := Aside0.mk (blk_below (g := gb313) (o := .cells #[.int .i64 a0_0, .slice A0_1 l0_1.length c0_1] 43 (0, 0)) (by exact pK BK313.out) hb); have n4_ := Aside0.mk (below_step (by exact pB HB.out) hb); clear HO316; clear HO320; clear BK313; clear HB; have HO316 := n0_; have HO320 := n1_; have HO325 := n2_; have BK313 := n3_; have HB := n4_; clear n0_ n1_ n2_ n3_ n4_; (try clear hb); (try clear hb2); (try clear hk); (try clear hi); (try clear ho0)) | (go_at_call 31; (with_reducible refine (customsref33_Scan.calls k _ _ l1 t326 t327 _ ?side1 ?side2 A6.out).mono ?_); (case side1 => exact pC (Kd.C_below HR1.out HB.out)); (case side2 => exact HC1.out); rintro e w14 ⟨v328, rfl, ho0, hb⟩; have n0_ := Aside0.mk (Kd.R_below (by exact pR HO316.out) hb); have n1_ := Aside0.mk (Kd.R_below (by exact pR HO320.out) hb); have n2_ := Aside0.mk (Kd.S_elder' (by exact pS HO325.out) (Kd.S_base ho0) hb); have n3_ := Aside0.mk (Kd.S_lower (Kd.S_newB (Kd.S_new' (Kd.S_new' (Kd.S_new' ho0 (Kd.R_lt (by exact pR HO316.out))) (Kd.R_lt (by exact pR HO320.out))) (Kd.S_lt (by exact pS HO325.out))) (g := gb313) (o := .cells #[.int .i64 a0_0, .slice A0_1 l0_1.length c0_1] 43 (0, 0)) (by exact pK BK313.out)) (below_size (by exact pB HB.out))); have n4_ := Aside0.mk (blk_below (g := gb313) (o := .cells #[.int .i64 a0_0, .slice A0_1 l0_1.length c0_1] 43 (0, 0)) (by exact pK BK313.out) hb); have n5_ := Aside0.mk (below_step (by exact pB HB.out) hb); clear HO316; clear HO320; clear HO325; clear BK313; clear HB; have HO316 := n0_; have HO320 := n1_; have HO325 := n2_; have HO329 := n3_; have BK313 := n4_; have HB := n5_; clear n0_ n1_ n2_ n3_ n4_ n5_; (try clear hb); (try clear hb2); (try clear hk); (try clear hi); (try clear ho0))))
  (try simp only [Act.put, List.setIfInBounds_toArray, List.set_cons_zero, List.set_cons_succ])
  go_cut [54] (fun v54 wc => ∃ (kq : Nat) (x54_6 : Bool), v54 = .bool x54_6 ∧ Aside0 (customslaw34_JournalEncode.j0 kq t322 t326 x54_6 = some true) ∧ Aside0 (kq ≤ k) ∧ Aside0 (Kd.S k43 43 wc w.heap.size (fun k_ => some k_ ≠ (v328 : Value).ownBlock ∧ k_ ≠ gb313) v324 t322) ∧ Aside0 (Kd.S k43 43 wc w.heap.size (fun k_ => some k_ ≠ (v324 : Value).ownBlock ∧ k_ ≠ gb313) v328 t326) ∧ Aside0 (wc.heap[gb313]? = some (.cells #[.int .i64 a0_0, (.slice A0_1 l0_1.length c0_1)] 43 (0, 0))) ∧ Aside0 (Below w.heap.size w wc))
  case first =>
    have H := HC7.out
    clear HC7
    by_cases c15 : t317 = t321
    · rw [if_pos c15] at H
      have c15b0 : (t317 == t321) = true := beq_iff_eq.mpr c15
      have c15b1 : (t317 != t321) = false := bne_eq_false_iff_eq.mpr c15
      clear c15
      (first | rw [c15b0] | (simp only [i64_w, i32_w]; rw [c15b0]) | skip)
      replace H := Option.bind_eq_some_iff.mp H
      obtain ⟨t330, A160, H⟩ := H
      replace H : (if t330 = true then (if t323 = t327 then (customslaw34_JournalEncode.j0 k t322 t326 ((t322.length : Int) != (t326.length : Int))) else (customslaw34_JournalEncode.j0 k t322 t326 true)) else (customslaw34_JournalEncode.j0 k t322 t326 true)) = some true := H
      have A16 := Aside0.mk A160
      clear A160
      by_cases c17 : t330 = true
      · subst c17
        have H1 : (if t323 = t327 then (customslaw34_JournalEncode.j0 k t322 t326 ((t322.length : Int) != (t326.length : Int))) else (customslaw34_JournalEncode.j0 k t322 t326 true)) = some true := by rw [if_pos rfl] at H; exact H
        clear H
        have H := H1
        clear H1
        by_cases c18 : t323 = t327
        · rw [if_pos c18] at H
          have c18b0 : (t323 == t327) = true := beq_iff_eq.mpr c18
          have c18b1 : (t323 != t327) = false := bne_eq_false_iff_eq.mpr c18
          clear c18
          have H' := Aside0.mk H
          clear H
          obtain ⟨Ao19, co19, eo19⟩ := Kd.R_slice HO316.out
          subst eo19
          obtain ⟨Ao20, co20, eo20⟩ := Kd.R_slice HO320.out
          subst eo20
          go_wp2_with (first | (go_at_call 17; (with_reducible refine (customsref33_SameBytes.calls _ _ t314 _ _ t318 true _ ?side1 ?side2 ?side3 ?side4 A16.out).mono ?_); (case side1 => exact pC (Kd.R_reads' HO316.out).2.2); (case side2 => exact (Kd.R_reads' HO316.out).2.1); (case side3 => exact pC (Kd.R_reads' HO320.out).2.2); (case side4 => exact (Kd.R_reads' HO320.out).2.1); rintro e w' ⟨rfl, ⟨nd, rfl⟩⟩; (try first | exact ⟨rfl, _, World.drewN_drewN _ _ _⟩ | exact ⟨rfl, _, Eq.trans (World.drewN_drewN _ _ _) (congrArg (World.drewN _) (Nat.add_assoc _ _ _))⟩); obtain ⟨Ao21, co21, eo21⟩ := Kd.S_slice HO325.out; subst eo21; obtain ⟨Ao22, co22, eo22⟩ := Kd.S_slice HO329.out; subst eo22))
          repeat (go_quiet (first | (go_at_call 17; (with_reducible refine (customsref33_SameBytes.calls _ _ t314 _ _ t318 true _ ?side1 ?side2 ?side3 ?side4 A16.out).mono ?_); (case side1 => exact pC (Kd.R_reads' HO316.out).2.2); (case side2 => exact (Kd.R_reads' HO316.out).2.1); (case side3 => exact pC (Kd.R_reads' HO320.out).2.2); (case side4 => exact (Kd.R_reads' HO320.out).2.1); rintro e w' ⟨rfl, ⟨nd, rfl⟩⟩; (try first | exact ⟨rfl, _, World.drewN_drewN _ _ _⟩ | exact ⟨rfl, _, Eq.trans (World.drewN_drewN _ _ _) (congrArg (World.drewN _) (Nat.add_assoc _ _ _))⟩); obtain ⟨Ao21, co21, eo21⟩ := Kd.S_slice HO325.out; subst eo21; obtain ⟨Ao22, co22, eo22⟩ := Kd.S_slice HO329.out; subst eo22)); try go_wp2_with (first | (go_at_call 17; (with_reducible refine (customsref33_SameBytes.calls _ _ t314 _ _ t318 true _ ?side1 ?side2 ?side3 ?side4 A16.out).mono ?_); (case side1 => exact pC (Kd.R_reads' HO316.out).2.2); (case side2 => exact (Kd.R_reads' HO316.out).2.1); (case side3 => exact pC (Kd.R_reads' HO320.out).2.2); (case side4 => exact (Kd.R_reads' HO320.out).2.1); rintro e w' ⟨rfl, ⟨nd, rfl⟩⟩; (try first | exact ⟨rfl, _, World.drewN_drewN _ _ _⟩ | exact ⟨rfl, _, Eq.trans (World.drewN_drewN _ _ _) (congrArg (World.drewN _) (Nat.add_assoc _ _ _))⟩); obtain ⟨Ao21, co21, eo21⟩ := Kd.S_slice HO325.out; subst eo21; obtain ⟨Ao22, co22, eo22⟩ := Kd.S_slice HO329.out; subst eo22)))
          go_meet
          case rel => exact ⟨_, (((t322.length : Int) != (t326.length : Int))), (by first | rfl | (simp; done) | (simp [*]; done)), H', ⟨by first | omega | exact Nat.le_refl _⟩, ⟨by exact pS (Kd.S_mono HO325.out (fun _ hk => ⟨hk.2, hk.1.2⟩))⟩, ⟨by exact pS (Kd.S_mono HO329.out (fun _ hk => ⟨hk.1.2, hk.2⟩))⟩, ⟨by exact pK BK313.out⟩, ⟨by exact pB HB.out⟩⟩
        · rw [if_neg c18] at H
          have c18b0 : (t323 == t327) = false := beq_eq_false_iff_ne.mpr c18
          have c18b1 : (t323 != t327) = true := bne_iff_ne.mpr c18
          exact absurd H (by cases k <;> simp [customslaw34_JournalEncode.j0])
      · replace c17 := Bool.eq_false_iff.mpr c17
        subst c17
        have H1 : (customslaw34_JournalEncode.j0 k t322 t326 true) = some true := by rw [if_neg (show ¬ (false = true) by decide)] at H; exact H
        clear H
        have H := H1
        clear H1
        exact absurd H (by cases k <;> simp [customslaw34_JournalEncode.j0])
    · rw [if_neg c15] at H
      have c15b0 : (t317 == t321) = false := beq_eq_false_iff_ne.mpr c15
      have c15b1 : (t317 != t321) = true := bne_iff_ne.mpr c15
      (first | rw [c15b0] | (simp only [i64_w, i32_w]; rw [c15b0]) | skip)
      exact absurd H (by cases k <;> simp [customslaw34_JournalEncode.j0])
  case rest =>
    clear HC7
    try clear c1
    try clear p2
    try clear c7
    try clear c15
    try clear c15b0
    try clear c15b1
    try clear c17
    try clear c18
    try clear c18b0
    try clear c18b1
    try clear hcz11_0
    try clear hcz11_1
    try clear hcz9_0
    try clear hcz9_1
    try clear hfz11_0
    try clear hfz11_1
    try clear hfz9_0
    try clear hfz9_1
    obtain ⟨kq, x54_6, rfl, HA, HJ6, HO_9, HO_11, BK313, HB⟩ := hcut
    cases kq with
    | zero => exact absurd HA.out (by simp [customslaw34_JournalEncode.j0])
    | succ kj6 =>
      have H := HA.out
      clear HA
      simp only [customslaw34_JournalEncode.j0] at H
      have c23 : ¬ (x54_6 = true) := by
        intro c23
        rw [if_pos c23] at H
        exact absurd (Option.some.inj H) (by simp)
      replace c23 := Bool.eq_false_iff.mpr c23
      subst c23
      have H1 : (customslaw34_JournalEncode.l0 kj6 t322 t326 0) = some true := by rw [if_neg (show ¬ (false = true) by decide)] at H; exact H
      clear H
      have H := H1
      clear H1
      have H' := Aside0.mk H
      clear H
      go_wp2
      repeat (go_quiet (fail); try go_wp2)
      go_loopg [13] kj6 (fun kq v13 w' => ∃ (x13_2 : Int), v13 = .int .i64 x13_2 ∧ Aside0 (customslaw34_JournalEncode.l0 kq t322 t326 x13_2 = some true) ∧ Aside0 (kq ≤ kj6) ∧ Aside0 (Kd.S k43 43 w' w.heap.size (fun k_ => some k_ ≠ (v328 : Value).ownBlock ∧ k_ ≠ gb313) v324 t322) ∧ Aside0 (Kd.S k43 43 w' w.heap.size (fun k_ => some k_ ≠ (v324 : Value).ownBlock ∧ k_ ≠ gb313) v328 t326) ∧ Aside0 (w'.heap[gb313]? = some (.cells #[.int .i64 a0_0, (.slice A0_1 l0_1.length c0_1)] 43 (0, 0))) ∧ Aside0 (Below w.heap.size w w'))
      case atStart => exact ⟨(0), (by first | rfl | (simp; done) | (simp [*]; done)), H', ⟨Nat.le_refl _⟩, ⟨by exact pS HO_9.out⟩, ⟨by exact pS HO_11.out⟩, ⟨by exact pK BK313.out⟩, ⟨by exact pB HB.out⟩⟩
      case round =>
        clear H'
        try clear c1
        try clear c2
        try clear p2
        try clear c7
        try clear c15
        try clear c15b0
        try clear c15b1
        try clear c17
        try clear c18
        try clear c18b0
        try clear c18b1
        try clear c23
        try clear hcz11_0
        try clear hcz11_1
        try clear hcz9_0
        try clear hcz9_1
        try clear hfz11_0
        try clear hfz11_1
        try clear hfz9_0
        try clear hfz9_1
        try clear p2
        obtain ⟨x13_2, rfl, HA, HK2, HO_9, HO_11, BK313, HB⟩ := hrel
        cases gk with
        | zero => exact absurd HA.out (by simp [customslaw34_JournalEncode.l0])
        | succ k2 =>
          have H := HA.out
          clear HA
          simp only [customslaw34_JournalEncode.l0] at H
          by_cases c24 : x13_2 < (t322.length : Int)
          · rw [if_pos c24] at H
            have c24b0 : decide (x13_2 < (t322.length : Int)) = true := decide_eq_true c24
            clear c24
            have c25 : 0 ≤ x13_2 := by
              refine Classical.byContradiction fun c25 => ?_
              rw [if_neg c25] at H
              exact absurd H (by simp)
            rw [if_pos c25] at H
            have c25b0 : decide (0 ≤ x13_2) = true := decide_eq_true c25
            clear c25
            have c26 : x13_2 < (t326.length : Int) := by
              refine Classical.byContradiction fun c26 => ?_
              rw [if_neg c26] at H
              exact absurd H (by simp)
            rw [if_pos c26] at H
            have c26b0 : decide (x13_2 < (t326.length : Int)) = true := decide_eq_true c26
            clear c26
            have c27 : ((rd_T43 t322 x13_2).f0) = ((rd_T43 t326 x13_2).f0) := by
              refine Classical.byContradiction fun c27 => ?_
              rw [if_neg c27] at H
              exact absurd (Option.some.inj H) (by simp)
            rw [if_pos c27] at H
            have c27b0 : (((rd_T43 t322 x13_2).f0) == ((rd_T43 t326 x13_2).f0)) = true := beq_iff_eq.mpr c27
            have c27b1 : (((rd_T43 t322 x13_2).f0) != ((rd_T43 t326 x13_2).f0)) = false := bne_eq_false_iff_eq.mpr c27
            clear c27
            replace H := Option.bind_eq_some_iff.mp H
            obtain ⟨t335, A280, H⟩ := H
            replace H : (if t335 = true then (customslaw34_JournalEncode.l0 k2 t322 t326 (wrap64 (x13_2 + 1))) else (some false)) = some true := H
            have A28 := Aside0.mk A280
            clear A280
            have c29 : t335 = true := by
              refine Classical.byContradiction fun c29 => ?_
              rw [if_neg c29] at H
              exact absurd (Option.some.inj H) (by simp)
            subst c29
            have H1 : (customslaw34_JournalEncode.l0 k2 t322 t326 (wrap64 (x13_2 + 1))) = some true := by rw [if_pos rfl] at H; exact H
            clear H
            have H := H1
            clear H1
            have H' := Aside0.mk H
            clear H
            obtain ⟨Ao30, co30, eo30⟩ := Kd.S_slice HO_9.out
            subst eo30
            have p331 : 0 ≤ (x13_2 : Int) := of_decide_eq_true (by first | (with_reducible assumption) | assumption)
            have q331 : x13_2 < (t322.length : Int) := of_decide_eq_true (by first | (with_reducible assumption) | assumption)
            obtain ⟨ad331, A331_1, c331_1, e331, hx331_0, hx331_1, hl331_1, hi331_1⟩ := at_T43 (Kd.S_reads' HO_9.out).2.2 x13_2 p331 q331
            cases e331
            obtain ⟨ce331, hce331, hMe331, hcc331⟩ := Kd.S_get HO_9.out z43 x13_2 p331 (by first | exact q331 | exact of_decide_eq_true (by first | (with_reducible assumption) | assumption) | (have e_ := (Kd.S_reads' HO_9.out).1; omega))
            obtain ⟨ve331_1, rfl, ge331_1⟩ := k43_openM hMe331
            have hv331_1 := hcc331 1 _ rfl
            rw [add_field _ _ 1 (by omega)] at hv331_1
            replace hv331_1 := Option.some.inj (hv331_1.symm.trans hx331_1)
            rw [hv331_1] at ge331_1
            have HL331_1 := Aside0.mk (show Kd.R (Kd.int .u8) 5 _ _ _ _ ((rd_T43 t322 x13_2).f1) from ge331_1)
            clear hv331_1 ge331_1
            clear hcc331 hce331
            have HR331_1 := Aside0.mk hi331_1
            have HC331_1 := Aside0.mk hl331_1
            clear hi331_1 hl331_1
            replace p331 := eq_true p331
            replace q331 := eq_true q331
            obtain ⟨Ao31, co31, eo31⟩ := Kd.S_slice HO_11.out
            subst eo31
            have p332 : 0 ≤ (x13_2 : Int) := of_decide_eq_true (by first | (with_reducible assumption) | assumption)
            have q332 : x13_2 < (t326.length : Int) := of_decide_eq_true (by first | (with_reducible assumption) | assumption)
            obtain ⟨ad332, A332_1, c332_1, e332, hx332_0, hx332_1, hl332_1, hi332_1⟩ := at_T43 (Kd.S_reads' HO_11.out).2.2 x13_2 p332 q332
            cases e332
            obtain ⟨ce332, hce332, hMe332, hcc332⟩ := Kd.S_get HO_11.out z43 x13_2 p332 (by first | exact q332 | exact of_decide_eq_true (by first | (with_reducible assumption) | assumption) | (have e_ := (Kd.S_reads' HO_11.out).1; omega))
            obtain ⟨ve332_1, rfl, ge332_1⟩ := k43_openM hMe332
            have hv332_1 := hcc332 1 _ rfl
            rw [add_field _ _ 1 (by omega)] at hv332_1
            replace hv332_1 := Option.some.inj (hv332_1.symm.trans hx332_1)
            rw [hv332_1] at ge332_1
            have HL332_1 := Aside0.mk (show Kd.R (Kd.int .u8) 5 _ _ _ _ ((rd_T43 t326 x13_2).f1) from ge332_1)
            clear hv332_1 ge332_1
            clear hcc332 hce332
            have HR332_1 := Aside0.mk hi332_1
            have HC332_1 := Aside0.mk hl332_1
            clear hi332_1 hl332_1
            replace p332 := eq_true p332
            replace q332 := eq_true q332
            have p333 : 0 ≤ (x13_2 : Int) := of_decide_eq_true (by first | (with_reducible assumption) | assumption)
            have q333 : x13_2 < (t322.length : Int) := of_decide_eq_true (by first | (with_reducible assumption) | assumption)
            obtain ⟨ad333, A333_1, c333_1, e333, hx333_0, hx333_1, hl333_1, hi333_1⟩ := at_T43 (Kd.S_reads' HO_9.out).2.2 x13_2 p333 q333
            obtain rfl : ad331 = ad333 := (by injection e333)
            obtain ⟨ce333, hce333, hMe333, hcc333⟩ := Kd.S_get HO_9.out z43 x13_2 p333 (by first | exact q333 | exact of_decide_eq_true (by first | (with_reducible assumption) | assumption) | (have e_ := (Kd.S_reads' HO_9.out).1; omega))
            obtain ⟨ve333_1, rfl, ge333_1⟩ := k43_openM hMe333
            have hv333_1 := hcc333 1 _ rfl
            rw [add_field _ _ 1 (by omega)] at hv333_1
            replace hv333_1 := Option.some.inj (hv333_1.symm.trans hx333_1)
            rw [hv333_1] at ge333_1
            have HL333_1 := Aside0.mk (show Kd.R (Kd.int .u8) 5 _ _ _ _ ((rd_T43 t322 x13_2).f1) from ge333_1)
            clear hv333_1 ge333_1
            clear hcc333 hce333
            have HR333_1 := Aside0.mk hi333_1
            have HC333_1 := Aside0.mk hl333_1
            clear hi333_1 hl333_1
            replace p333 := eq_true p333
            replace q333 := eq_true q333
            have ea_ := Option.some.inj (hx331_1.symm.trans hx333_1)
            injection ea_ with ea_ en_ ec_
            subst ea_
            subst ec_
            clear en_
            have p334 : 0 ≤ (x13_2 : Int) := of_decide_eq_true (by first | (with_reducible assumption) | assumption)
            have q334 : x13_2 < (t326.length : Int) := of_decide_eq_true (by first | (with_reducible assumption) | assumption)
            obtain ⟨ad334, A334_1, c334_1, e334, hx334_0, hx334_1, hl334_1, hi334_1⟩ := at_T43 (Kd.S_reads' HO_11.out).2.2 x13_2 p334 q334
            obtain rfl : ad332 = ad334 := (by injection e334)
            obtain ⟨ce334, hce334, hMe334, hcc334⟩ := Kd.S_get HO_11.out z43 x13_2 p334 (by first | exact q334 | exact of_decide_eq_true (by first | (with_reducible assumption) | assumption) | (have e_ := (Kd.S_reads' HO_11.out).1; omega))
            obtain ⟨ve334_1, rfl, ge334_1⟩ := k43_openM hMe334
            have hv334_1 := hcc334 1 _ rfl
            rw [add_field _ _ 1 (by omega)] at hv334_1
            replace hv334_1 := Option.some.inj (hv334_1.symm.trans hx334_1)
            rw [hv334_1] at ge334_1
            have HL334_1 := Aside0.mk (show Kd.R (Kd.int .u8) 5 _ _ _ _ ((rd_T43 t326 x13_2).f1) from ge334_1)
            clear hv334_1 ge334_1
            clear hcc334 hce334
            have HR334_1 := Aside0.mk hi334_1
            have HC334_1 := Aside0.mk hl334_1
            clear hi334_1 hl334_1
            replace p334 := eq_true p334
            replace q334 := eq_true q334
            have ea_ := Option.some.inj (hx332_1.symm.trans hx334_1)
            injection ea_ with ea_ en_ ec_
            subst ea_
            subst ec_
            clear en_
            go_wp2_with (first | (go_at_call 17; (with_reducible refine (customsref33_SameBytes.calls _ _ ((rd_T43 t322 x13_2).f1) _ _ ((rd_T43 t326 x13_2).f1) true _ ?side1 ?side2 ?side3 ?side4 A28.out).mono ?_); (case side1 => exact pC (by exact pC HR333_1.out)); (case side2 => exact HC333_1.out); (case side3 => exact pC (by exact pC HR334_1.out)); (case side4 => exact HC334_1.out); rintro e w' ⟨rfl, ⟨nd, rfl⟩⟩; (try first | exact ⟨rfl, _, World.drewN_drewN _ _ _⟩ | exact ⟨rfl, _, Eq.trans (World.drewN_drewN _ _ _) (congrArg (World.drewN _) (Nat.add_assoc _ _ _))⟩)))
            repeat (go_quiet (first | (go_at_call 17; (with_reducible refine (customsref33_SameBytes.calls _ _ ((rd_T43 t322 x13_2).f1) _ _ ((rd_T43 t326 x13_2).f1) true _ ?side1 ?side2 ?side3 ?side4 A28.out).mono ?_); (case side1 => exact pC (by exact pC HR333_1.out)); (case side2 => exact HC333_1.out); (case side3 => exact pC (by exact pC HR334_1.out)); (case side4 => exact HC334_1.out); rintro e w' ⟨rfl, ⟨nd, rfl⟩⟩; (try first | exact ⟨rfl, _, World.drewN_drewN _ _ _⟩ | exact ⟨rfl, _, Eq.trans (World.drewN_drewN _ _ _) (congrArg (World.drewN _) (Nat.add_assoc _ _ _))⟩))); try go_wp2_with (first | (go_at_call 17; (with_reducible refine (customsref33_SameBytes.calls _ _ ((rd_T43 t322 x13_2).f1) _ _ ((rd_T43 t326 x13_2).f1) true _ ?side1 ?side2 ?side3 ?side4 A28.out).mono ?_); (case side1 => exact pC (by exact pC HR333_1.out)); (case side2 => exact HC333_1.out); (case side3 => exact pC (by exact pC HR334_1.out)); (case side4 => exact HC334_1.out); rintro e w' ⟨rfl, ⟨nd, rfl⟩⟩; (try first | exact ⟨rfl, _, World.drewN_drewN _ _ _⟩ | exact ⟨rfl, _, Eq.trans (World.drewN_drewN _ _ _) (congrArg (World.drewN _) (Nat.add_assoc _ _ _))⟩))))
            go_roundg k2
            case measure => have := HJ6.out; have := HK2.out; omega
            case rel => exact ⟨(wrap64 (x13_2 + 1)), (by first | rfl | (simp; done) | (simp [*]; done)), H', ⟨by have := HJ6.out; have := HK2.out; omega⟩, ⟨by exact pS HO_9.out⟩, ⟨by exact pS HO_11.out⟩, ⟨by exact pK BK313.out⟩, ⟨by exact pB HB.out⟩⟩
          · rw [if_neg c24] at H
            have c24b0 : decide (x13_2 < (t322.length : Int)) = false := decide_eq_false c24
            clear c24
            replace H := Option.bind_eq_some_iff.mp H
            obtain ⟨t336, A320, H⟩ := H
            replace H : (some t336) = some true := H
            have A32 := Aside0.mk A320
            clear A320
            have HTR := Aside0.mk (Option.some.inj H)
            clear H
            obtain ⟨Ao33, co33, eo33⟩ := Kd.S_slice HO_9.out
            subst eo33
            go_wp2_with (first | (go_at_call 32; (with_reducible refine (customslaw34_awake.calls k2  t336 _ A32.out).mono ?_); rintro e w34 ⟨rfl, hb⟩; have n0_ := Aside0.mk (below_step (by exact pB HB.out) hb); clear HB; have HB := n0_; clear n0_; (try clear hb); (try clear hb2); (try clear hk); (try clear hi)))
            repeat (go_quiet (first | (go_at_call 32; (with_reducible refine (customslaw34_awake.calls k2  t336 _ A32.out).mono ?_); rintro e w34 ⟨rfl, hb⟩; have n0_ := Aside0.mk (below_step (by exact pB HB.out) hb); clear HB; have HB := n0_; clear n0_; (try clear hb); (try clear hb2); (try clear hk); (try clear hi))); try go_wp2_with (first | (go_at_call 32; (with_reducible refine (customslaw34_awake.calls k2  t336 _ A32.out).mono ?_); rintro e w34 ⟨rfl, hb⟩; have n0_ := Aside0.mk (below_step (by exact pB HB.out) hb); clear HB; have HB := n0_; clear n0_; (try clear hb); (try clear hb2); (try clear hk); (try clear hi))))
            go_ret
            exact ⟨by first | rfl | (rw [HTR.out]; first | done | rfl) | (simp [errW_none, errW_some] <;> rfl) | (simp [*, errW_none, errW_some] <;> rfl), by exact pB HB.out⟩

end Go.Proofs.Ythnlepmfjhhgfaa.PJournalEncode
