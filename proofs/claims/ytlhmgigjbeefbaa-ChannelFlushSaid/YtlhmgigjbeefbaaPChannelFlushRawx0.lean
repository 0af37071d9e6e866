-- Printed by a patched copy of the kit's printer (wip/prt); nothing here is trusted, Lean checks it.
import Derived.Test.YtlhmgigjbeefbaaXFlush
import Derived.Test.YtlhmgigjbeefbaaPChannelStepsx3
import Derived.Test.YtlhmgigjbeefbaaPChannelStepsx7
namespace Go.Proofs.Ytlhmgigjbeefbaa.PChannelFlushRaw
open Go.Proofs.Ytlhmgigjbeefbaa.PChannelSteps
open Go.RowKit Go.Proofs.YtlhmgigjbeefbaaW.PrintWords Go.Proofs.YtlhmgigjbeefbaaW.PrintLast Go.Proofs.YtlhmgigjbeefbaaW.PrintMore
attribute [local go_sem] max2_int min2_int max_two min_two max_three min_three max_four min_four   -- for this text's walks alone
set_option linter.unusedVariables false
set_option linter.unusedSimpArgs false

/-! ### channel_Flush: function 8 (proved by hand) -/
def channel_Flush.f (a0_0 : Int) (l0_1 : List Int) (l0_2 : List Int) (a1 : Int) (a2 : Int) : Option (Int × List Int × List Int × Int × Int) := Go.Proofs.Ytlhmgigjbeefbaa.XFlush.flushF a0_0 l0_1 l0_2 a1 a2
theorem channel_Flush.calls (a0_0 : Int) (A0_1 : Option Addr) (c0_1 : Nat) (l0_1 : List Int) (A0_2 : Option Addr) (c0_2 : Nat) (l0_2 : List Int) (a1 : Int) (a2 : Int) (r1 : Int) (r2 : List Int) (r3 : List Int) (r4 : Int) (r5 : Int) (w : World) (hr0_1 : Kd.C (Kd.int .i64) w A0_1 l0_1.length l0_1) (hc0_1 : l0_1.length ≤ c0_1) (hr0_2 : Kd.C (Kd.int .i64) w A0_2 l0_2.length l0_2) (hc0_2 : l0_2.length ≤ c0_2) (h : channel_Flush.f a0_0 l0_1 l0_2 a1 a2 = some (r1, r2, r3, r4, r5)) :
    Calls Try.prog 8 #[.agg #[.int .i64 a0_0, .slice A0_1 l0_1.length c0_1, .slice A0_2 l0_2.length c0_2], .int .i64 a1, .int .i64 a2] w fun e w' => ∃ v1_ v2_ : Value, e = .returned (.tuple #[.agg #[.int .i64 r1, v1_, v2_], .int .i64 r4, .int .i64 r5]) ∧ Kd.R (Kd.int .i64) 3 w' w.heap.size (fun k_ => some k_ ≠ (v2_ : Value).ownBlock) v1_ r2 ∧ Kd.R (Kd.int .i64) 3 w' w.heap.size (fun k_ => some k_ ≠ (v1_ : Value).ownBlock) v2_ r3 ∧ Below w.heap.size w w' :=
  Go.Proofs.Ytlhmgigjbeefbaa.XFlush.flush_calls a0_0 A0_1 c0_1 l0_1 A0_2 c0_2 l0_2 a1 a2 r1 r2 r3 r4 r5 w hr0_1 hc0_1 hr0_2 hc0_2 h

/-! ### customsref33_Flush: function 9 -/
mutual
def customsref33_Flush.j0 : Nat → Int → Int → Bool → Int → List Int → List Int → Option (Int × List Int × List Int × Int × Int)
  | 0, _, _, _, _, _, _ => none
  | k + 1, x2, x9, x26, x234000, x234001, x234002 => if x26 = true then (customsref33_Flush.j1 k x2 2 x234000 x234001 x234002) else (customsref33_Flush.j1 k x2 x9 x234000 x234001 x234002)
def customsref33_Flush.j1 : Nat → Int → Int → Int → List Int → List Int → Option (Int × List Int × List Int × Int × Int)
  | 0, _, _, _, _, _ => none
  | k + 1, x2, x9, x234000, x234001, x234002 => if x9 = 0 then (customsref33_Flush.l0 k x2 x234000 x234001 x234002) else (some (0, ([] : List Int), ([] : List Int), 0, x9))
def customsref33_Flush.l0 : Nat → Int → Int → List Int → List Int → Option (Int × List Int × List Int × Int × Int)
  | 0, _, _, _, _ => none
  | k + 1, x2, x234000, x234001, x234002 => if (x234001.length : Int) > 0 then ((customsref33_Deliver.f k x234000 x234001 x234002 0 x2).bind fun bt243 => (if bt243.2.2.2.1 = (wrap64 (x2 + 1)) then (customsref33_Flush.l0 k bt243.2.2.2.1 bt243.1 bt243.2.1 bt243.2.2.1) else (customsref33_Flush.l0 k x2 bt243.1 bt243.2.1 bt243.2.2.1))) else (customsref33_Flush.l1 k x2 x234000 x234001 x234002)
def customsref33_Flush.l1 : Nat → Int → Int → List Int → List Int → Option (Int × List Int × List Int × Int × Int)
  | 0, _, _, _, _ => none
  | k + 1, x2, x234000, x234001, x234002 => if (x234002.length : Int) > 0 then ((customsref33_Confirm.f x234000 x234001 x234002 0).bind fun bt252 => (customsref33_Flush.l1 k x2 bt252.1 bt252.2.1 bt252.2.2.1)) else (some (x234000, x234001, x234002, x2, 0))
end
def customsref33_Flush.f (k : Nat) (a0_0 : Int) (l0_1 : List Int) (l0_2 : List Int) (a1 : Int) (a2 : Int) : Option (Int × List Int × List Int × Int × Int) := (customsref33_Transmit.f k a0_0 l0_1 l0_2 a1).bind fun bt235 => (if bt235.2.2.2 = 0 then (if a2 < 0 then (customsref33_Flush.j0 k a2 bt235.2.2.2 true bt235.1 bt235.2.1 bt235.2.2.1) else (customsref33_Flush.j0 k a2 bt235.2.2.2 (decide (a2 > 999000)) bt235.1 bt235.2.1 bt235.2.2.1)) else (customsref33_Flush.j0 k a2 bt235.2.2.2 false bt235.1 bt235.2.1 bt235.2.2.1))
theorem customsref33_Flush.mono_l : ∀ k, (∀ y0 y1 y2 y3 y4 y5, LeO (customsref33_Flush.j0 k y0 y1 y2 y3 y4 y5) (customsref33_Flush.j0 (k + 1) y0 y1 y2 y3 y4 y5)) ∧ (∀ y0 y1 y2 y3 y4, LeO (customsref33_Flush.j1 k y0 y1 y2 y3 y4) (customsref33_Flush.j1 (k + 1) y0 y1 y2 y3 y4)) ∧ (∀ y0 y1 y2 y3, LeO (customsref33_Flush.l0 k y0 y1 y2 y3) (customsref33_Flush.l0 (k + 1) y0 y1 y2 y3)) ∧ (∀ y0 y1 y2 y3, LeO (customsref33_Flush.l1 k y0 y1 y2 y3) (customsref33_Flush.l1 (k + 1) y0 y1 y2 y3))
  | 0 => ⟨fun _ _ _ _ _ _ r h => by simp [customsref33_Flush.j0] at h, fun _ _ _ _ _ r h => by simp [customsref33_Flush.j1] at h, fun _ _ _ _ r h => by simp [customsref33_Flush.l0] at h, fun _ _ _ _ r h => by simp [customsref33_Flush.l1] at h⟩
  | k + 1 => by
    obtain ⟨ih0, ih1, ih2, ih3⟩ := customsref33_Flush.mono_l k
    refine ⟨?_, ?_, ?_, ?_⟩
    · intro y0 y1 y2 y3 y4 y5
      unfold customsref33_Flush.j0
      repeat' first
      | (with_reducible exact ih0 _ _ _ _ _ _)
      | (with_reducible exact ih1 _ _ _ _ _)
      | (with_reducible exact ih2 _ _ _ _)
      | (with_reducible exact ih3 _ _ _ _)
      | (with_reducible exact customsref33_Deliver.mono _ _ _ _ _ _)
      | (with_reducible exact customsref33_Transmit.mono _ _ _ _ _)
      | (with_reducible exact LeO.refl _)
      | (with_reducible exact LeO.none _)
      | (with_reducible refine LeO.ite ?_ ?_)
      | (with_reducible refine LeO.bind ?_ (fun _ => ?_))
      | exact ih0 _ _ _ _ _ _
      | exact ih1 _ _ _ _ _
      | exact ih2 _ _ _ _
      | exact ih3 _ _ _ _
      | exact customsref33_Deliver.mono _ _ _ _ _ _
      | exact customsref33_Transmit.mono _ _ _ _ _
      | exact LeO.none _
      | refine LeO.ite ?_ ?_
      | refine LeO.bind ?_ (fun _ => ?_)
    · intro y0 y1 y2 y3 y4
      unfold customsref33_Flush.j1
      repeat' first
      | (with_reducible exact ih0 _ _ _ _ _ _)
      | (with_reducible exact ih1 _ _ _ _ _)
      | (with_reducible exact ih2 _ _ _ _)
      | (with_reducible exact ih3 _ _ _ _)
      | (with_reducible exact customsref33_Deliver.mono _ _ _ _ _ _)
      | (with_reducible exact customsref33_Transmit.mono _ _ _ _ _)
      | (with_reducible exact LeO.refl _)
      | (with_reducible exact LeO.none _)
      | (with_reducible refine LeO.ite ?_ ?_)
      | (with_reducible refine LeO.bind ?_ (fun _ => ?_))
      | exact ih0 _ _ _ _ _ _
      | exact ih1 _ _ _ _ _
      | exact ih2 _ _ _ _
      | exact ih3 _ _ _ _
      | exact customsref33_Deliver.mono _ _ _ _ _ _
      | exact customsref33_Transmit.mono _ _ _ _ _
      | exact LeO.none _
      | refine LeO.ite ?_ ?_
      | refine LeO.bind ?_ (fun _ => ?_)
    · intro y0 y1 y2 y3
      unfold customsref33_Flush.l0
      repeat' first
      | (with_reducible exact ih0 _ _ _ _ _ _)
      | (with_reducible exact ih1 _ _ _ _ _)
      | (with_reducible exact ih2 _ _ _ _)
      | (with_reducible exact ih3 _ _ _ _)
      | (with_reducible exact customsref33_Deliver.mono _ _ _ _ _ _)
      | (with_reducible exact customsref33_Transmit.mono _ _ _ _ _)
      | (with_reducible exact LeO.refl _)
      | (with_reducible exact LeO.none _)
      | (with_reducible refine LeO.ite ?_ ?_)
      | (with_reducible refine LeO.bind ?_ (fun _ => ?_))
      | exact ih0 _ _ _ _ _ _
      | exact ih1 _ _ _ _ _
      | exact ih2 _ _ _ _
      | exact ih3 _ _ _ _
      | exact customsref33_Deliver.mono _ _ _ _ _ _
      | exact customsref33_Transmit.mono _ _ _ _ _
      | exact LeO.none _
      | refine LeO.ite ?_ ?_
      | refine LeO.bind ?_ (fun _ => ?_)
    · intro y0 y1 y2 y3
      unfold customsref33_Flush.l1
      repeat' first
      | (with_reducible exact ih0 _ _ _ _ _ _)
      | (with_reducible exact ih1 _ _ _ _ _)
      | (with_reducible exact ih2 _ _ _ _)
      | (with_reducible exact ih3 _ _ _ _)
      | (with_reducible exact customsref33_Deliver.mono _ _ _ _ _ _)
      | (with_reducible exact customsref33_Transmit.mono _ _ _ _ _)
      | (with_reducible exact LeO.refl _)
      | (with_reducible exact LeO.none _)
      | (with_reducible refine LeO.ite ?_ ?_)
      | (with_reducible refine LeO.bind ?_ (fun _ => ?_))
      | exact ih0 _ _ _ _ _ _
      | exact ih1 _ _ _ _ _
      | exact ih2 _ _ _ _
      | exact ih3 _ _ _ _
      | exact customsref33_Deliver.mono _ _ _ _ _ _
      | exact customsref33_Transmit.mono _ _ _ _ _
      | exact LeO.none _
      | refine LeO.ite ?_ ?_
      | refine LeO.bind ?_ (fun _ => ?_)
theorem customsref33_Flush.mono : ∀ a0 a1 a2 a3 a4 k, LeO (customsref33_Flush.f k a0 a1 a2 a3 a4) (customsref33_Flush.f (k + 1) a0 a1 a2 a3 a4) := by
  intro a0 a1 a2 a3 a4 k
  obtain ⟨ih0, ih1, ih2, ih3⟩ := customsref33_Flush.mono_l k
  unfold customsref33_Flush.f
  repeat' first
      | (with_reducible exact ih0 _ _ _ _ _ _)
      | (with_reducible exact ih1 _ _ _ _ _)
      | (with_reducible exact ih2 _ _ _ _)
      | (with_reducible exact ih3 _ _ _ _)
      | (with_reducible exact customsref33_Deliver.mono _ _ _ _ _ _)
      | (with_reducible exact customsref33_Transmit.mono _ _ _ _ _)
      | (with_reducible exact LeO.refl _)
      | (with_reducible exact LeO.none _)
      | (with_reducible refine LeO.ite ?_ ?_)
      | (with_reducible refine LeO.bind ?_ (fun _ => ?_))
      | exact ih0 _ _ _ _ _ _
      | exact ih1 _ _ _ _ _
      | exact ih2 _ _ _ _
      | exact ih3 _ _ _ _
      | exact customsref33_Deliver.mono _ _ _ _ _ _
      | exact customsref33_Transmit.mono _ _ _ _ _
      | exact LeO.none _
      | refine LeO.ite ?_ ?_
      | refine LeO.bind ?_ (fun _ => ?_)
set_option maxHeartbeats 8000000 in
set_option maxRecDepth 100000 in
theorem customsref33_Flush.calls (k : Nat) (a0_0 : Int) (A0_1 : Option Addr) (c0_1 : Nat) (l0_1 : List Int) (P0_2_ : Nat → Prop) (A0_2 : Option Addr) (c0_2 : Nat) (l0_2 : List Int) (a1 : Int) (a2 : Int) (r1 : Int) (r2 : List Int) (r3 : List Int) (r4 : Int) (r5 : Int) (w : World) (hr0_1 : Kd.C (Kd.int .i64) w A0_1 l0_1.length l0_1) (hc0_1 : l0_1.length ≤ c0_1) (hs0_2 : Kd.V (Kd.int .i64) 3 w w.heap.size (fun k_ => P0_2_ k_) (.slice A0_2 l0_2.length c0_2) l0_2) (h : customsref33_Flush.f k a0_0 l0_1 l0_2 a1 a2 = some (r1, r2, r3, r4, r5)) :
    Calls Try.prog 9 #[.agg #[.int .i64 a0_0, .slice A0_1 l0_1.length c0_1, .slice A0_2 l0_2.length c0_2], .int .i64 a1, .int .i64 a2] w fun e w' => ∃ v1_ v2_ : Value, e = .returned (.tuple #[.agg #[.int .i64 r1, v1_, v2_], .int .i64 r4, .int .i64 r5]) ∧ Kd.V (Kd.int .i64) 3 w' w.heap.size (fun k_ => (P0_2_ k_ ∨ w.heap.size ≤ k_)) v1_ r2 ∧ Kd.V (Kd.int .i64) 3 w' w.heap.size (fun k_ => (P0_2_ k_ ∨ w.heap.size ≤ k_)) v2_ r3 ∧ Below w.heap.size w w' := by
  have hu24 := Try.underlying24
  have HR0_1 := Aside0.mk hr0_1
  have HC0_1 := Aside0.mk hc0_1
  clear hr0_1 hc0_1
  have HO0_2 := Aside0.mk (show Kd.V (Kd.int .i64) 3 w w.heap.size (fun k_ => (P0_2_ k_ ∨ w.heap.size ≤ k_)) (.slice A0_2 l0_2.length c0_2) l0_2 from Kd.V_mono hs0_2 (fun k_ hk => .inl hk))
  have HB := Aside0.mk (Below.refl w.heap.size w)
  have H : ((customsref33_Transmit.f k a0_0 l0_1 l0_2 a1).bind fun bt235 => (if bt235.2.2.2 = 0 then (if a2 < 0 then (customsref33_Flush.j0 k a2 bt235.2.2.2 true bt235.1 bt235.2.1 bt235.2.2.1) else (customsref33_Flush.j0 k a2 bt235.2.2.2 (decide (a2 > 999000)) bt235.1 bt235.2.1 bt235.2.2.1)) else (customsref33_Flush.j0 k a2 bt235.2.2.2 false bt235.1 bt235.2.1 bt235.2.2.1))) = some (r1, r2, r3, r4, r5) := h
  clear h
  replace H := Option.bind_eq_some_iff.mp H
  obtain ⟨⟨t235, t236, t239, t242⟩, A40, H⟩ := H
  replace H : (if t242 = 0 then (if a2 < 0 then (customsref33_Flush.j0 k a2 t242 true t235 t236 t239) else (customsref33_Flush.j0 k a2 t242 (decide (a2 > 999000)) t235 t236 t239)) else (customsref33_Flush.j0 k a2 t242 false t235 t236 t239)) = some (r1, r2, r3, r4, r5) := H
  have A4 := Aside0.mk A40
  clear A40
  have HC5 := Aside0.mk H
  clear H
  go_enter Try.func9, Try.ntmps9
  go_upto_region 2 with (first | ((with_reducible refine gate_dst (N := 3) rfl ?_); refine box_event ?hg (N := 3) ?hd (cs := #[.int .i64 a0_0, .slice A0_1 l0_1.length c0_1, .slice A0_2 l0_2.length c0_2]) (t := 24) ?hr ?_; (case hd => rfl); (case hg => rfl); (case hr => first | (go_simp; done) | (go_simp; rfl)); intro gb233 hg w6 hbox hb; have n0_ := Aside0.mk (Kd.V_below (Kd.V_elderB (by exact pV HO0_2.out) gb233 (Nat.le_of_eq hg.symm)) hb); have n1_ := Aside0.mk (below_step (by exact pB HB.out) hb); have n2_ := Aside0.mk (hbox); have n3_ := Aside0.mk ((by rw [hg]; exact (below_size (by exact pB HB.out)) : w.heap.size ≤ gb233)); have n4_ := Aside0.mk ((by rw [hg]; exact (below_size (by exact pB HB.out)) : w.heap.size ≤ gb233)); clear HO0_2; clear HB; have HO0_2 := n0_; have HB := n1_; have BK233 := n2_; have GW233 := n3_; have GE233 := n4_; clear n0_ n1_ n2_ n3_ n4_; clear hb hbox hg) | ((with_reducible refine gate_dst (N := 6) rfl ?_); refine box_event ?hg (N := 6) ?hd (cs := #[.int .i64 0, .slice none 0 0, .slice none 0 0]) (t := 24) ?hr ?_; (case hd => rfl); (case hg => rfl); (case hr => first | (go_simp; done) | (go_simp; rfl)); intro gb234 hg w7 hbox hb; have n0_ := Aside0.mk (Kd.V_below (Kd.V_elderB (by exact pV HO0_2.out) gb234 (Nat.le_of_eq hg.symm)) hb); have n1_ := Aside0.mk (blk_below (g := gb233) (o := .cells #[.int .i64 a0_0, .slice A0_1 l0_1.length c0_1, .slice A0_2 l0_2.length c0_2] 24 (0, 0)) (by exact pK BK233.out) hb); have n2_ := Aside0.mk (below_step (by exact pB HB.out) hb); have n3_ := Aside0.mk (hbox); have n4_ := Aside0.mk ((by rw [hg]; exact (below_size (by exact pB HB.out)) : w.heap.size ≤ gb234)); have n5_ := Aside0.mk ((by rw [hg]; exact (below_size (by exact pB HB.out)) : w.heap.size ≤ gb234)); have n6_ := Aside0.mk ((by rw [hg]; exact Nat.ne_of_lt (blk_lt (g := gb233) (o := .cells #[.int .i64 a0_0, .slice A0_1 l0_1.length c0_1, .slice A0_2 l0_2.length c0_2] 24 (0, 0)) (by exact pK BK233.out)) : gb233 ≠ gb234)); have n7_ := Aside0.mk ((by rw [hg]; exact Nat.ne_of_gt (blk_lt (g := gb233) (o := .cells #[.int .i64 a0_0, .slice A0_1 l0_1.length c0_1, .slice A0_2 l0_2.length c0_2] 24 (0, 0)) (by exact pK BK233.out)) : gb234 ≠ gb233)); clear HO0_2; clear BK233; clear HB; have HO0_2 := n0_; have BK233 := n1_; have HB := n2_; have BK234 := n3_; have GW234 := n4_; have GE234 := n5_; have NB233_234 := n6_; have NB234_233 := n7_; clear n0_ n1_ n2_ n3_ n4_ n5_ n6_ n7_; clear hb hbox hg; have hnb8 := NB233_234.out; have hnc8 := NB234_233.out; have hcz9_0 : w7.cell? ⟨gb233, 0, none⟩ = some (.int .i64 a0_0) := (blk_cell BK233.out 0).trans rfl; have hcz9_1 : w7.cell? ⟨gb233, 1, none⟩ = some (.slice A0_1 l0_1.length c0_1) := (blk_cell BK233.out 1).trans rfl; have hcz9_2 : w7.cell? ⟨gb233, 2, none⟩ = some (.slice A0_2 l0_2.length c0_2) := (blk_cell BK233.out 2).trans rfl; have hfz9_0 := blk_frozen BK233.out 0; have hfz9_1 := blk_frozen BK233.out 1; have hfz9_2 := blk_frozen BK233.out 2) | ((with_reducible refine gate_callee (f := 14) rfl ?_); refine goesL_ (some 14) rfl rfl Try.func14 (by kernel_rfl) rfl #[.agg #[.int .i64 a0_0, .slice A0_1 l0_1.length c0_1, .slice A0_2 l0_2.length c0_2], .int .i64 a1] rfl (by (try simp only [List.map_toArray, List.map_cons, List.map_nil]); first | done | rfl | (simp only [List.length_drop, List.length_take]; rfl)) ?_; (with_reducible refine (customsref33_Transmit.calls k a0_0 _ _ l0_1 (fun k_ => (((P0_2_ k_ ∨ w.heap.size ≤ k_) ∧ k_ ≠ gb233) ∧ k_ ≠ gb234)) _ _ l0_2 a1 t235 t236 t239 t242 _ ?side1 ?side2 ?side3 A4.out).mono ?_); (case side1 => exact pC (Kd.C_below HR0_1.out HB.out)); (case side2 => exact HC0_1.out); (case side3 => exact HO0_2.out); rintro e w10 ⟨v237, v240, rfl, ho0, ho1, hb⟩; refine ⟨_, rfl, ?_⟩; have n0_ := Aside0.mk (Kd.V_elder' (by exact pV HO0_2.out) (Kd.R_base ho0) hb); have n1_ := Aside0.mk (Kd.R_lower (Kd.R_newM (M := fun k_ => (w.heap.size ≤ k_)) (Kd.R_mono (ok' := fun k_ => True) ho0 (fun _ hk_ => trivial)) (below_size (by exact pB HB.out)) (fun k_ h_ => h_)) (below_size (by exact pB HB.out))); have n2_ := Aside0.mk (Kd.V_lower (Kd.V_mono (ok' := fun k_ => (P0_2_ k_ ∨ w.heap.size ≤ k_) ∧ some k_ ≠ (v237 : Value).ownBlock ∧ k_ ≠ gb233 ∧ k_ ≠ gb234) ho1 (fun k_ hk_ => ⟨Or.elim hk_.1 (fun hs_ => hs_.1.1) (fun hn_ => (.inr (Nat.le_trans (below_size (by exact pB HB.out)) hn_))), hk_.2, Or.elim hk_.1 (fun hs_ => hs_.1.2) (fun hn_ => (Kd.freshB (g := gb233) (o := .cells #[.int .i64 a0_0, .slice A0_1 l0_1.length c0_1, .slice A0_2 l0_2.length c0_2] 24 (0, 0)) (by exact pK BK233.out) k_ hn_)), Or.elim hk_.1 (fun hs_ => hs_.2) (fun hn_ => (Kd.freshB (g := gb234) (o := .cells #[.int .i64 0, .slice none 0 0, .slice none 0 0] 24 (0, 0)) (by exact pK BK234.out) k_ hn_))⟩)) (below_size (by exact pB HB.out))); have n3_ := Aside0.mk (blk_below (g := gb233) (o := .cells #[.int .i64 a0_0, .slice A0_1 l0_1.length c0_1, .slice A0_2 l0_2.length c0_2] 24 (0, 0)) (by exact pK BK233.out) hb); have n4_ := Aside0.mk (blk_below (g := gb234) (o := .cells #[.int .i64 0, .slice none 0 0, .slice none 0 0] 24 (0, 0)) (by exact pK BK234.out) hb); have n5_ := Aside0.mk (below_step (by exact pB HB.out) hb); clear HO0_2; clear BK233; clear BK234; clear HB; have HO0_2 := n0_; have HO238 := n1_; have HO241 := n2_; have BK233 := n3_; have BK234 := n4_; have HB := n5_; clear n0_ n1_ n2_ n3_ n4_ n5_; (try clear hb); (try clear hb2); (try clear hk); (try clear hi); (try clear ho0); (try clear ho1); have hcz11_0 : w10.cell? ⟨gb233, 0, none⟩ = some (.int .i64 a0_0) := (blk_cell BK233.out 0).trans rfl; have hcz11_1 : w10.cell? ⟨gb233, 1, none⟩ = some (.slice A0_1 l0_1.length c0_1) := (blk_cell BK233.out 1).trans rfl; have hcz11_2 : w10.cell? ⟨gb233, 2, none⟩ = some (.slice A0_2 l0_2.length c0_2) := (blk_cell BK233.out 2).trans rfl; have hfz11_0 := blk_frozen BK233.out 0; have hfz11_1 := blk_frozen BK233.out 1; have hfz11_2 := blk_frozen BK233.out 2; obtain ⟨Ao12, co12, eo12⟩ := Kd.R_slice HO238.out; subst eo12; obtain ⟨Ao13, co13, eo13⟩ := Kd.V_slice HO241.out; subst eo13))
  (try simp only [Act.put, List.setIfInBounds_toArray, List.set_cons_zero, List.set_cons_succ])
  go_cut [26] (fun v26 wc => ∃ (kq : Nat) (x26_4 : Bool), v26 = .bool x26_4 ∧ Aside0 (customsref33_Flush.j0 kq a2 t242 x26_4 t235 t236 t239 = some (r1, r2, r3, r4, r5)) ∧ Aside0 (kq ≤ k) ∧ Aside0 (Kd.R (Kd.int .i64) 3 wc w.heap.size (fun k_ => (w.heap.size ≤ k_)) (.slice Ao12 t236.length co12) t236) ∧ Aside0 (Kd.V (Kd.int .i64) 3 wc w.heap.size (fun k_ => (P0_2_ k_ ∨ w.heap.size ≤ k_) ∧ some k_ ≠ ((.slice Ao12 t236.length co12) : Value).ownBlock ∧ k_ ≠ gb233 ∧ k_ ≠ gb234) (.slice Ao13 t239.length co13) t239) ∧ Aside0 (wc.heap[gb233]? = some (.cells #[.int .i64 t235, (.slice Ao12 t236.length co12), (.slice Ao13 t239.length co13)] 24 (0, 0))) ∧ Aside0 (wc.heap[gb234]? = some (.cells #[.int .i64 0, (.slice none 0 0), (.slice none 0 0)] 24 (0, 0))) ∧ Aside0 (Below w.heap.size w wc))
  case first => as_aux_lemma =>
    have H := HC5.out
    clear HC5
    by_cases c14 : t242 = 0
    · rw [if_pos c14] at H
      have c14b0 : (t242 == 0) = true := beq_iff_eq.mpr c14
      have c14b1 : (t242 != 0) = false := bne_eq_false_iff_eq.mpr c14
      clear c14
      (first | rw [c14b0] | (simp only [i64_w, i32_w]; rw [c14b0]) | skip)
      by_cases c15 : a2 < 0
      · rw [if_pos c15] at H
        have c15b0 : decide (a2 < 0) = true := decide_eq_true c15
        clear c15
        have H' := Aside0.mk H
        clear H
        go_wp2
        go_meet
        case rel => exact ⟨_, (true), (by first | rfl | (simp; done) | (simp [*]; done)), H', ⟨by first | omega | exact Nat.le_refl _⟩, ⟨by (with_reducible repeat (first | apply Kd.R_alloc | apply Kd.R_drewN | apply Kd.R_drew)); exact Kd.R_mono (Kd.R_far (p := ⟨gb233, 2, none⟩) (Kd.R_far (p := ⟨gb233, 1, none⟩) (Kd.R_far (p := ⟨gb233, 0, none⟩) (Kd.R_types HO238.out BK233.out (by decide)) (fun _ hk => hk.2) (.int .i64 t235)) (fun _ hk => hk.2) (.slice Ao12 t236.length co12)) (fun _ hk => hk.2) (.slice Ao13 t239.length co13)) (fun _ hk => hk.1.1)⟩, ⟨by (with_reducible repeat (first | apply Kd.V_alloc | apply Kd.V_drewN | apply Kd.V_drew)); exact Kd.V_mono (Kd.V_far (p := ⟨gb233, 2, none⟩) (Kd.V_far (p := ⟨gb233, 1, none⟩) (Kd.V_far (p := ⟨gb233, 0, none⟩) (Kd.V_mono HO241.out (fun k_ hk => (⟨hk, hk.2.2.1⟩ : _ ∧ k_ ≠ gb233))) (fun _ hk => hk.2) (.int .i64 t235)) (fun _ hk => hk.2) (.slice Ao12 t236.length co12)) (fun _ hk => hk.2) (.slice Ao13 t239.length co13)) (fun _ hk => ⟨hk.1.1, ⟨hk.1.2.1, ⟨hk.1.2.2.1, hk.1.2.2.2⟩⟩⟩)⟩, ⟨by (with_reducible repeat (first | refine blk_drewN ?_ _ | refine blk_drew ?_ | refine blk_alloc ?_ _)); refine blk_put (cs := #[.int .i64 t235, .slice Ao12 t236.length co12, .slice A0_2 l0_2.length c0_2]) ?_ 2 _ rfl; (with_reducible repeat (first | refine blk_drewN ?_ _ | refine blk_drew ?_ | refine blk_alloc ?_ _)); refine blk_put (cs := #[.int .i64 t235, .slice A0_1 l0_1.length c0_1, .slice A0_2 l0_2.length c0_2]) ?_ 1 _ rfl; (with_reducible repeat (first | refine blk_drewN ?_ _ | refine blk_drew ?_ | refine blk_alloc ?_ _)); refine blk_put (cs := #[.int .i64 a0_0, .slice A0_1 l0_1.length c0_1, .slice A0_2 l0_2.length c0_2]) ?_ 0 _ rfl; (with_reducible repeat (first | refine blk_drewN ?_ _ | refine blk_drew ?_ | refine blk_alloc ?_ _)); exact BK233.out⟩, ⟨by (with_reducible repeat (first | refine blk_drewN ?_ _ | refine blk_drew ?_ | refine blk_alloc ?_ _)); refine blk_far ?_ NB234_233.out _; (with_reducible repeat (first | refine blk_drewN ?_ _ | refine blk_drew ?_ | refine blk_alloc ?_ _)); refine blk_far ?_ NB234_233.out _; (with_reducible repeat (first | refine blk_drewN ?_ _ | refine blk_drew ?_ | refine blk_alloc ?_ _)); refine blk_far ?_ NB234_233.out _; (with_reducible repeat (first | refine blk_drewN ?_ _ | refine blk_drew ?_ | refine blk_alloc ?_ _)); exact BK234.out⟩, ⟨by repeat (first | (with_reducible first | exact HB.out | apply below_alloc | apply pw_below_drewN | apply below_drew1 | refine below_set ?_ GE233.out | refine below_set ?_ GE234.out) | exact HB.out)⟩⟩
      · rw [if_neg c15] at H
        have c15b0 : decide (a2 < 0) = false := decide_eq_false c15
        clear c15
        have H' := Aside0.mk H
        clear H
        go_wp2
        go_meet
        case rel => exact ⟨_, (decide (a2 > 999000)), (by first | rfl | (simp; done) | (simp [*]; done)), H', ⟨by first | omega | exact Nat.le_refl _⟩, ⟨by (with_reducible repeat (first | apply Kd.R_alloc | apply Kd.R_drewN | apply Kd.R_drew)); exact Kd.R_mono (Kd.R_far (p := ⟨gb233, 2, none⟩) (Kd.R_far (p := ⟨gb233, 1, none⟩) (Kd.R_far (p := ⟨gb233, 0, none⟩) (Kd.R_types HO238.out BK233.out (by decide)) (fun _ hk => hk.2) (.int .i64 t235)) (fun _ hk => hk.2) (.slice Ao12 t236.length co12)) (fun _ hk => hk.2) (.slice Ao13 t239.length co13)) (fun _ hk => hk.1.1)⟩, ⟨by (with_reducible repeat (first | apply Kd.V_alloc | apply Kd.V_drewN | apply Kd.V_drew)); exact Kd.V_mono (Kd.V_far (p := ⟨gb233, 2, none⟩) (Kd.V_far (p := ⟨gb233, 1, none⟩) (Kd.V_far (p := ⟨gb233, 0, none⟩) (Kd.V_mono HO241.out (fun k_ hk => (⟨hk, hk.2.2.1⟩ : _ ∧ k_ ≠ gb233))) (fun _ hk => hk.2) (.int .i64 t235)) (fun _ hk => hk.2) (.slice Ao12 t236.length co12)) (fun _ hk => hk.2) (.slice Ao13 t239.length co13)) (fun _ hk => ⟨hk.1.1, ⟨hk.1.2.1, ⟨hk.1.2.2.1, hk.1.2.2.2⟩⟩⟩)⟩, ⟨by (with_reducible repeat (first | refine blk_drewN ?_ _ | refine blk_drew ?_ | refine blk_alloc ?_ _)); refine blk_put (cs := #[.int .i64 t235, .slice Ao12 t236.length co12, .slice A0_2 l0_2.length c0_2]) ?_ 2 _ rfl; (with_reducible repeat (first | refine blk_drewN ?_ _ | refine blk_drew ?_ | refine blk_alloc ?_ _)); refine blk_put (cs := #[.int .i64 t235, .slice A0_1 l0_1.length c0_1, .slice A0_2 l0_2.length c0_2]) ?_ 1 _ rfl; (with_reducible repeat (first | refine blk_drewN ?_ _ | refine blk_drew ?_ | refine blk_alloc ?_ _)); refine blk_put (cs := #[.int .i64 a0_0, .slice A0_1 l0_1.length c0_1, .slice A0_2 l0_2.length c0_2]) ?_ 0 _ rfl; (with_reducible repeat (first | refine blk_drewN ?_ _ | refine blk_drew ?_ | refine blk_alloc ?_ _)); exact BK233.out⟩, ⟨by (with_reducible repeat (first | refine blk_drewN ?_ _ | refine blk_drew ?_ | refine blk_alloc ?_ _)); refine blk_far ?_ NB234_233.out _; (with_reducible repeat (first | refine blk_drewN ?_ _ | refine blk_drew ?_ | refine blk_alloc ?_ _)); refine blk_far ?_ NB234_233.out _; (with_reducible repeat (first | refine blk_drewN ?_ _ | refine blk_drew ?_ | refine blk_alloc ?_ _)); refine blk_far ?_ NB234_233.out _; (with_reducible repeat (first | refine blk_drewN ?_ _ | refine blk_drew ?_ | refine blk_alloc ?_ _)); exact BK234.out⟩, ⟨by repeat (first | (with_reducible first | exact HB.out | apply below_alloc | apply pw_below_drewN | apply below_drew1 | refine below_set ?_ GE233.out | refine below_set ?_ GE234.out) | exact HB.out)⟩⟩
    · rw [if_neg c14] at H
      have c14b0 : (t242 == 0) = false := beq_eq_false_iff_ne.mpr c14
      have c14b1 : (t242 != 0) = true := bne_iff_ne.mpr c14
      (first | rw [c14b0] | (simp only [i64_w, i32_w]; rw [c14b0]) | skip)
      have H' := Aside0.mk H
      clear H
      go_wp2
      go_meet
      case rel => exact ⟨_, (false), (by first | rfl | (simp; done) | (simp [*]; done)), H', ⟨by first | omega | exact Nat.le_refl _⟩, ⟨by (with_reducible repeat (first | apply Kd.R_alloc | apply Kd.R_drewN | apply Kd.R_drew)); exact Kd.R_mono (Kd.R_far (p := ⟨gb233, 2, none⟩) (Kd.R_far (p := ⟨gb233, 1, none⟩) (Kd.R_far (p := ⟨gb233, 0, none⟩) (Kd.R_types HO238.out BK233.out (by decide)) (fun _ hk => hk.2) (.int .i64 t235)) (fun _ hk => hk.2) (.slice Ao12 t236.length co12)) (fun _ hk => hk.2) (.slice Ao13 t239.length co13)) (fun _ hk => hk.1.1)⟩, ⟨by (with_reducible repeat (first | apply Kd.V_alloc | apply Kd.V_drewN | apply Kd.V_drew)); exact Kd.V_mono (Kd.V_far (p := ⟨gb233, 2, none⟩) (Kd.V_far (p := ⟨gb233, 1, none⟩) (Kd.V_far (p := ⟨gb233, 0, none⟩) (Kd.V_mono HO241.out (fun k_ hk => (⟨hk, hk.2.2.1⟩ : _ ∧ k_ ≠ gb233))) (fun _ hk => hk.2) (.int .i64 t235)) (fun _ hk => hk.2) (.slice Ao12 t236.length co12)) (fun _ hk => hk.2) (.slice Ao13 t239.length co13)) (fun _ hk => ⟨hk.1.1, ⟨hk.1.2.1, ⟨hk.1.2.2.1, hk.1.2.2.2⟩⟩⟩)⟩, ⟨by (with_reducible repeat (first | refine blk_drewN ?_ _ | refine blk_drew ?_ | refine blk_alloc ?_ _)); refine blk_put (cs := #[.int .i64 t235, .slice Ao12 t236.length co12, .slice A0_2 l0_2.length c0_2]) ?_ 2 _ rfl; (with_reducible repeat (first | refine blk_drewN ?_ _ | refine blk_drew ?_ | refine blk_alloc ?_ _)); refine blk_put (cs := #[.int .i64 t235, .slice A0_1 l0_1.length c0_1, .slice A0_2 l0_2.length c0_2]) ?_ 1 _ rfl; (with_reducible repeat (first | refine blk_drewN ?_ _ | refine blk_drew ?_ | refine blk_alloc ?_ _)); refine blk_put (cs := #[.int .i64 a0_0, .slice A0_1 l0_1.length c0_1, .slice A0_2 l0_2.length c0_2]) ?_ 0 _ rfl; (with_reducible repeat (first | refine blk_drewN ?_ _ | refine blk_drew ?_ | refine blk_alloc ?_ _)); exact BK233.out⟩, ⟨by (with_reducible repeat (first | refine blk_drewN ?_ _ | refine blk_drew ?_ | refine blk_alloc ?_ _)); refine blk_far ?_ NB234_233.out _; (with_reducible repeat (first | refine blk_drewN ?_ _ | refine blk_drew ?_ | refine blk_alloc ?_ _)); refine blk_far ?_ NB234_233.out _; (with_reducible repeat (first | refine blk_drewN ?_ _ | refine blk_drew ?_ | refine blk_alloc ?_ _)); refine blk_far ?_ NB234_233.out _; (with_reducible repeat (first | refine blk_drewN ?_ _ | refine blk_drew ?_ | refine blk_alloc ?_ _)); exact BK234.out⟩, ⟨by repeat (first | (with_reducible first | exact HB.out | apply below_alloc | apply pw_below_drewN | apply below_drew1 | refine below_set ?_ GE233.out | refine below_set ?_ GE234.out) | exact HB.out)⟩⟩
  case rest => as_aux_lemma =>
    clear HC5
    try clear c1; try clear p2; try clear c8; try clear c9; try clear c14; try clear c14b0; try clear c14b1; try clear c15; try clear c15b0; try clear hcz11_0; try clear hcz11_1; try clear hcz11_2; try clear hcz9_0; try clear hcz9_1; try clear hcz9_2; try clear hfz11_0; try clear hfz11_1; try clear hfz11_2; try clear hfz9_0; try clear hfz9_1; try clear hfz9_2
    obtain ⟨kq, x26_4, rfl, HA, HJ4, HO_234001, HO_234002, BK233, BK234, HB⟩ := hcut
    cases kq with
    | zero => exact absurd HA.out (by simp [customsref33_Flush.j0])
    | succ kj4 =>
      have H := HA.out
      clear HA
      simp only [customsref33_Flush.j0] at H
      have HC16 := Aside0.mk H
      clear H
      go_upto_if 26 with (fail)
      go_cut [9] (fun v9 wc => ∃ (kq : Nat) (x9_15 : Int), v9 = .int .i64 x9_15 ∧ Aside0 (customsref33_Flush.j1 kq a2 x9_15 t235 t236 t239 = some (r1, r2, r3, r4, r5)) ∧ Aside0 (kq ≤ kj4) ∧ Aside0 (Kd.R (Kd.int .i64) 3 wc w.heap.size (fun k_ => (w.heap.size ≤ k_)) (.slice Ao12 t236.length co12) t236) ∧ Aside0 (Kd.V (Kd.int .i64) 3 wc w.heap.size (fun k_ => (P0_2_ k_ ∨ w.heap.size ≤ k_) ∧ some k_ ≠ ((.slice Ao12 t236.length co12) : Value).ownBlock ∧ k_ ≠ gb233 ∧ k_ ≠ gb234) (.slice Ao13 t239.length co13) t239) ∧ Aside0 (wc.heap[gb233]? = some (.cells #[.int .i64 t235, (.slice Ao12 t236.length co12), (.slice Ao13 t239.length co13)] 24 (0, 0))) ∧ Aside0 (wc.heap[gb234]? = some (.cells #[.int .i64 0, (.slice none 0 0), (.slice none 0 0)] 24 (0, 0))) ∧ Aside0 (Below w.heap.size w wc))
      case first => as_aux_lemma =>
        have H := HC16.out
        clear HC16
        by_cases c17 : x26_4 = true
        · subst c17
          have H1 : (customsref33_Flush.j1 kj4 a2 2 t235 t236 t239) = some (r1, r2, r3, r4, r5) := by rw [if_pos rfl] at H; exact H
          clear H
          have H := H1
          clear H1
          have H' := Aside0.mk H
          clear H
          go_wp2
          go_meet
          case rel => exact ⟨_, (2), (by first | rfl | (simp; done) | (simp [*]; done)), H', ⟨by have := HJ4.out; first | omega | exact Nat.le_refl _⟩, ⟨by exact pR HO_234001.out⟩, ⟨by exact pV HO_234002.out⟩, ⟨by exact pK BK233.out⟩, ⟨by exact pK BK234.out⟩, ⟨by exact pB HB.out⟩⟩
        · replace c17 := Bool.eq_false_iff.mpr c17
          subst c17
          have H1 : (customsref33_Flush.j1 kj4 a2 t242 t235 t236 t239) = some (r1, r2, r3, r4, r5) := by rw [if_neg (show ¬ (false = true) by decide)] at H; exact H
          clear H
          have H := H1
          clear H1
          have H' := Aside0.mk H
          clear H
          go_wp2
          go_meet
          case rel => exact ⟨_, (t242), (by first | rfl | (simp; done) | (simp [*]; done)), H', ⟨by have := HJ4.out; first | omega | exact Nat.le_refl _⟩, ⟨by exact pR HO_234001.out⟩, ⟨by exact pV HO_234002.out⟩, ⟨by exact pK BK233.out⟩, ⟨by exact pK BK234.out⟩, ⟨by exact pB HB.out⟩⟩
      case rest => as_aux_lemma =>
        clear HC16
        try clear c1; try clear p2; try clear c8; try clear c9; try clear c14; try clear c14b0; try clear c14b1; try clear c15; try clear c15b0; try clear c17; try clear hcz11_0; try clear hcz11_1; try clear hcz11_2; try clear hcz9_0; try clear hcz9_1; try clear hcz9_2; try clear hfz11_0; try clear hfz11_1; try clear hfz11_2; try clear hfz9_0; try clear hfz9_1; try clear hfz9_2; try clear p2
        obtain ⟨kq, x9_15, rfl, HA, HJ15, HO_234001, HO_234002, BK233, BK234, HB⟩ := hcut
        cases kq with
        | zero => exact absurd HA.out (by simp [customsref33_Flush.j1])
        | succ kj15 =>
          have H := HA.out
          clear HA
          simp only [customsref33_Flush.j1] at H
          by_cases c18 : x9_15 = 0
          · rw [if_pos c18] at H
            have c18b0 : (x9_15 == 0) = true := beq_iff_eq.mpr c18
            have c18b1 : (x9_15 != 0) = false := bne_eq_false_iff_eq.mpr c18
            clear c18
            have H' := Aside0.mk H
            clear H
            go_wp2
            go_loopg [2] kj15 (fun kq v2 w' => ∃ (x2_3 : Int) (x234000_3 : Int) (x234001_3 : List Int) (x234002_3 : List Int) (u234001 : Value) (u234002 : Value), v2 = .int .i64 x2_3 ∧ Aside0 (customsref33_Flush.l0 kq x2_3 x234000_3 x234001_3 x234002_3 = some (r1, r2, r3, r4, r5)) ∧ Aside0 (kq ≤ kj15) ∧ Aside0 (Kd.V (Kd.int .i64) 3 w' w.heap.size (fun k_ => (P0_2_ k_ ∨ w.heap.size ≤ k_) ∧ k_ ≠ gb233 ∧ k_ ≠ gb234) u234001 x234001_3) ∧ Aside0 (Kd.V (Kd.int .i64) 3 w' w.heap.size (fun k_ => (P0_2_ k_ ∨ w.heap.size ≤ k_) ∧ k_ ≠ gb233 ∧ k_ ≠ gb234) u234002 x234002_3) ∧ Aside0 (w'.heap[gb233]? = some (.cells #[.int .i64 x234000_3, u234001, u234002] 24 (0, 0))) ∧ Aside0 (w'.heap[gb234]? = some (.cells #[.int .i64 0, (.slice none 0 0), (.slice none 0 0)] 24 (0, 0))) ∧ Aside0 (Below w.heap.size w w'))
            case atStart => exact ⟨(a2), (t235), (t236), (t239), (.slice Ao12 t236.length co12), (.slice Ao13 t239.length co13), (by first | rfl | (simp; done) | (simp [*]; done)), H', ⟨Nat.le_refl _⟩, ⟨Kd.V_mono (Kd.R_V (by exact pR ((Kd.R_types (Kd.R_types HO_234001.out BK233.out (by decide)) BK234.out (by decide))))) (fun _ hk => by exact ⟨(.inr (hk.1.1)), ⟨hk.1.2, hk.2⟩⟩)⟩, ⟨by exact pV (Kd.V_mono HO_234002.out (fun _ hk => ⟨hk.1, ⟨hk.2.2.1, hk.2.2.2⟩⟩))⟩, ⟨by exact pK BK233.out⟩, ⟨by exact pK BK234.out⟩, ⟨by exact pB HB.out⟩⟩
            case round =>
              clear H'
              try clear c1; try clear p2; try clear c8; try clear c9; try clear c14; try clear c14b0; try clear c14b1; try clear c15; try clear c15b0; try clear c17; try clear c18; try clear c18b0; try clear c18b1; try clear hcz11_0; try clear hcz11_1; try clear hcz11_2; try clear hcz9_0; try clear hcz9_1; try clear hcz9_2; try clear hfz11_0; try clear hfz11_1; try clear hfz11_2; try clear hfz9_0; try clear hfz9_1; try clear hfz9_2; try clear p2
              obtain ⟨x2_3, x234000_3, x234001_3, x234002_3, u234001, u234002, rfl, HA, HK3, HO_234001, HO_234002, BK233, BK234, HB⟩ := hrel
              cases gk with
              | zero => exact absurd HA.out (by simp [customsref33_Flush.l0])
              | succ k3 =>
                have H := HA.out
                clear HA
                simp only [customsref33_Flush.l0] at H
                by_cases c19 : (x234001_3.length : Int) > 0
                · rw [if_pos c19] at H
                  have c19b0 : decide (0 < (x234001_3.length : Int)) = true := decide_eq_true c19
                  have c19b1 : decide (0 < x234001_3.length) = true := decide_eq_true (by omega)
                  clear c19
                  replace H := Option.bind_eq_some_iff.mp H
                  obtain ⟨⟨t243, t244, t247, t250, t251⟩, A200, H⟩ := H
                  replace H : (if t250 = (wrap64 (x2_3 + 1)) then (customsref33_Flush.l0 k3 t250 t243 t244 t247) else (customsref33_Flush.l0 k3 x2_3 t243 t244 t247)) = some (r1, r2, r3, r4, r5) := H
                  have A20 := Aside0.mk A200
                  clear A200
                  by_cases c21 : t250 = (wrap64 (x2_3 + 1))
                  · rw [if_pos c21] at H
                    have c21b0 : (t250 == (wrap64 (x2_3 + 1))) = true := beq_iff_eq.mpr c21
                    have c21b1 : (t250 != (wrap64 (x2_3 + 1))) = false := bne_eq_false_iff_eq.mpr c21
                    clear c21
                    have H' := Aside0.mk H
                    clear H
                    have hnb22 := NB233_234.out
                    have hnc22 := NB234_233.out
                    have hcz23_0 : wr.cell? ⟨gb233, 0, none⟩ = some (.int .i64 x234000_3) := (blk_cell BK233.out 0).trans rfl
                    have hcz23_1 : wr.cell? ⟨gb233, 1, none⟩ = some (u234001) := (blk_cell BK233.out 1).trans rfl
                    have hcz23_2 : wr.cell? ⟨gb233, 2, none⟩ = some (u234002) := (blk_cell BK233.out 2).trans rfl
                    have hfz23_0 := blk_frozen BK233.out 0
                    have hfz23_1 := blk_frozen BK233.out 1
                    have hfz23_2 := blk_frozen BK233.out 2
                    obtain ⟨Ao24, co24, eo24⟩ := Kd.V_slice HO_234001.out
                    subst eo24
                    obtain ⟨Ao25, co25, eo25⟩ := Kd.V_slice HO_234002.out
                    subst eo25
                    go_wp2_with (first | ((with_reducible refine gate_callee (f := 16) rfl ?_); refine goesL_ (some 38) rfl rfl Try.func16 (by kernel_rfl) rfl #[.agg #[.int .i64 x234000_3, .slice Ao24 x234001_3.length co24, .slice Ao25 x234002_3.length co25], .int .i64 0, .int .i64 x2_3] rfl (by (try simp only [List.map_toArray, List.map_cons, List.map_nil]); first | done | rfl | (simp only [List.length_drop, List.length_take]; rfl)) ?_; (with_reducible refine (customsref33_Deliver.calls k3 x234000_3 _ _ x234001_3 _ _ x234002_3 0 x2_3 t243 t244 t247 t250 t251 _ ?side1 ?side2 ?side3 ?side4 A20.out).mono ?_); (case side1 => exact pC (Kd.V_reads' HO_234001.out).2.2); (case side2 => exact (Kd.V_reads' HO_234001.out).2.1); (case side3 => exact pC (Kd.V_reads' HO_234002.out).2.2); (case side4 => exact (Kd.V_reads' HO_234002.out).2.1); rintro e w26 ⟨v245, v248, rfl, ho0, ho1, hb⟩; refine ⟨_, rfl, ?_⟩; have n0_ := Aside0.mk (Kd.V_mono (Kd.V_told (Kd.V_told (Kd.V_old (by exact pV HO_234001.out) hb) (Kd.R_base ho0)) (Kd.R_base ho1)) (fun _ h_ => h_.1)); have n1_ := Aside0.mk (Kd.V_mono (Kd.V_told (Kd.V_told (Kd.V_old (by exact pV HO_234002.out) hb) (Kd.R_base ho0)) (Kd.R_base ho1)) (fun _ h_ => h_.1)); have n2_ := Aside0.mk (Kd.R_lower (Kd.R_newM (M := fun k_ => (w.heap.size ≤ k_)) ho0 (below_size (by exact pB HB.out)) (fun k_ h_ => h_)) (below_size (by exact pB HB.out))); have n3_ := Aside0.mk (Kd.R_lower (Kd.R_newM (M := fun k_ => (w.heap.size ≤ k_)) ho1 (below_size (by exact pB HB.out)) (fun k_ h_ => h_)) (below_size (by exact pB HB.out))); have n4_ := Aside0.mk (blk_below (g := gb233) (o := .cells #[.int .i64 x234000_3, .slice Ao24 x234001_3.length co24, .slice Ao25 x234002_3.length co25] 24 (0, 0)) (by exact pK BK233.out) hb); have n5_ := Aside0.mk (blk_below (g := gb234) (o := .cells #[.int .i64 0, .slice none 0 0, .slice none 0 0] 24 (0, 0)) (by exact pK BK234.out) hb); have n6_ := Aside0.mk (below_step (by exact pB HB.out) hb); clear HO_234001; clear HO_234002; clear BK233; clear BK234; clear HB; have HO_234001 := n0_; have HO_234002 := n1_; have HO246 := n2_; have HO249 := n3_; have BK233 := n4_; have BK234 := n5_; have HB := n6_; clear n0_ n1_ n2_ n3_ n4_ n5_ n6_; (try clear hb); (try clear hb2); (try clear hk); (try clear hi); (try clear ho0); (try clear ho1); have hcz27_0 : w26.cell? ⟨gb233, 0, none⟩ = some (.int .i64 x234000_3) := (blk_cell BK233.out 0).trans rfl; have hcz27_1 : w26.cell? ⟨gb233, 1, none⟩ = some (.slice Ao24 x234001_3.length co24) := (blk_cell BK233.out 1).trans rfl; have hcz27_2 : w26.cell? ⟨gb233, 2, none⟩ = some (.slice Ao25 x234002_3.length co25) := (blk_cell BK233.out 2).trans rfl; have hfz27_0 := blk_frozen BK233.out 0; have hfz27_1 := blk_frozen BK233.out 1; have hfz27_2 := blk_frozen BK233.out 2; obtain ⟨Ao28, co28, eo28⟩ := Kd.R_slice HO246.out; subst eo28; obtain ⟨Ao29, co29, eo29⟩ := Kd.R_slice HO249.out; subst eo29))
                    go_roundg k3
                    case measure => have := HJ4.out; have := HJ15.out; have := HK3.out; omega
                    case rel => exact ⟨(t250), (t243), (t244), (t247), (.slice Ao28 t244.length co28), (.slice Ao29 t247.length co29), (by first | rfl | (simp; done) | (simp [*]; done)), H', ⟨by have := HJ4.out; have := HJ15.out; have := HK3.out; omega⟩, ⟨Kd.V_mono (Kd.R_V (by (with_reducible repeat (first | apply Kd.R_alloc | apply Kd.R_drewN | apply Kd.R_drew)); exact (Kd.R_far (p := ⟨gb233, 2, none⟩) (Kd.R_far (p := ⟨gb233, 1, none⟩) (Kd.R_far (p := ⟨gb233, 0, none⟩) (Kd.R_types (Kd.R_types (Kd.R_types HO246.out BK233.out (by decide)) BK234.out (by decide)) BK233.out (by decide)) (fun _ hk => hk.2) (.int .i64 t243)) (fun _ hk => hk.2) (.slice Ao28 t244.length co28)) (fun _ hk => hk.2) (.slice Ao29 t247.length co29)))) (fun _ hk => by exact ⟨(.inr (hk.1.1.1.1)), ⟨hk.1.1.2, hk.1.2⟩⟩)⟩, ⟨Kd.V_mono (Kd.R_V (by (with_reducible repeat (first | apply Kd.R_alloc | apply Kd.R_drewN | apply Kd.R_drew)); exact (Kd.R_far (p := ⟨gb233, 2, none⟩) (Kd.R_far (p := ⟨gb233, 1, none⟩) (Kd.R_far (p := ⟨gb233, 0, none⟩) (Kd.R_types (Kd.R_types (Kd.R_types HO249.out BK233.out (by decide)) BK234.out (by decide)) BK233.out (by decide)) (fun _ hk => hk.2) (.int .i64 t243)) (fun _ hk => hk.2) (.slice Ao28 t244.length co28)) (fun _ hk => hk.2) (.slice Ao29 t247.length co29)))) (fun _ hk => by exact ⟨(.inr (hk.1.1.1.1)), ⟨hk.1.1.2, hk.1.2⟩⟩)⟩, ⟨by (with_reducible repeat (first | refine blk_drewN ?_ _ | refine blk_drew ?_ | refine blk_alloc ?_ _)); refine blk_put (cs := #[.int .i64 t243, .slice Ao28 t244.length co28, .slice Ao25 x234002_3.length co25]) ?_ 2 _ rfl; (with_reducible repeat (first | refine blk_drewN ?_ _ | refine blk_drew ?_ | refine blk_alloc ?_ _)); refine blk_put (cs := #[.int .i64 t243, .slice Ao24 x234001_3.length co24, .slice Ao25 x234002_3.length co25]) ?_ 1 _ rfl; (with_reducible repeat (first | refine blk_drewN ?_ _ | refine blk_drew ?_ | refine blk_alloc ?_ _)); refine blk_put (cs := #[.int .i64 x234000_3, .slice Ao24 x234001_3.length co24, .slice Ao25 x234002_3.length co25]) ?_ 0 _ rfl; (with_reducible repeat (first | refine blk_drewN ?_ _ | refine blk_drew ?_ | refine blk_alloc ?_ _)); exact BK233.out⟩, ⟨by (with_reducible repeat (first | refine blk_drewN ?_ _ | refine blk_drew ?_ | refine blk_alloc ?_ _)); refine blk_far ?_ NB234_233.out _; (with_reducible repeat (first | refine blk_drewN ?_ _ | refine blk_drew ?_ | refine blk_alloc ?_ _)); refine blk_far ?_ NB234_233.out _; (with_reducible repeat (first | refine blk_drewN ?_ _ | refine blk_drew ?_ | refine blk_alloc ?_ _)); refine blk_far ?_ NB234_233.out _; (with_reducible repeat (first | refine blk_drewN ?_ _ | refine blk_drew ?_ | refine blk_alloc ?_ _)); exact BK234.out⟩, ⟨by repeat (first | (with_reducible first | exact HB.out | apply below_alloc | apply pw_below_drewN | apply below_drew1 | refine below_set ?_ GE233.out | refine below_set ?_ GE234.out) | exact HB.out)⟩⟩
                  · rw [if_neg c21] at H
                    have c21b0 : (t250 == (wrap64 (x2_3 + 1))) = false := beq_eq_false_iff_ne.mpr c21
                    have c21b1 : (t250 != (wrap64 (x2_3 + 1))) = true := bne_iff_ne.mpr c21
                    have H' := Aside0.mk H
                    clear H
                    have hnb30 := NB233_234.out
                    have hnc30 := NB234_233.out
                    have hcz31_0 : wr.cell? ⟨gb233, 0, none⟩ = some (.int .i64 x234000_3) := (blk_cell BK233.out 0).trans rfl
                    have hcz31_1 : wr.cell? ⟨gb233, 1, none⟩ = some (u234001) := (blk_cell BK233.out 1).trans rfl
                    have hcz31_2 : wr.cell? ⟨gb233, 2, none⟩ = some (u234002) := (blk_cell BK233.out 2).trans rfl
                    have hfz31_0 := blk_frozen BK233.out 0
                    have hfz31_1 := blk_frozen BK233.out 1
                    have hfz31_2 := blk_frozen BK233.out 2
                    obtain ⟨Ao32, co32, eo32⟩ := Kd.V_slice HO_234001.out
                    subst eo32
                    obtain ⟨Ao33, co33, eo33⟩ := Kd.V_slice HO_234002.out
                    subst eo33
                    go_wp2_with (first | ((with_reducible refine gate_callee (f := 16) rfl ?_); refine goesL_ (some 38) rfl rfl Try.func16 (by kernel_rfl) rfl #[.agg #[.int .i64 x234000_3, .slice Ao32 x234001_3.length co32, .slice Ao33 x234002_3.length co33], .int .i64 0, .int .i64 x2_3] rfl (by (try simp only [List.map_toArray, List.map_cons, List.map_nil]); first | done | rfl | (simp only [List.length_drop, List.length_take]; rfl)) ?_; (with_reducible refine (customsref33_Deliver.calls k3 x234000_3 _ _ x234001_3 _ _ x234002_3 0 x2_3 t243 t244 t247 t250 t251 _ ?side1 ?side2 ?side3 ?side4 A20.out).mono ?_); (case side1 => exact pC (Kd.V_reads' HO_234001.out).2.2); (case side2 => exact (Kd.V_reads' HO_234001.out).2.1); (case side3 => exact pC (Kd.V_reads' HO_234002.out).2.2); (case side4 => exact (Kd.V_reads' HO_234002.out).2.1); rintro e w34 ⟨v245, v248, rfl, ho0, ho1, hb⟩; refine ⟨_, rfl, ?_⟩; have n0_ := Aside0.mk (Kd.V_mono (Kd.V_told (Kd.V_told (Kd.V_old (by exact pV HO_234001.out) hb) (Kd.R_base ho0)) (Kd.R_base ho1)) (fun _ h_ => h_.1)); have n1_ := Aside0.mk (Kd.V_mono (Kd.V_told (Kd.V_told (Kd.V_old (by exact pV HO_234002.out) hb) (Kd.R_base ho0)) (Kd.R_base ho1)) (fun _ h_ => h_.1)); have n2_ := Aside0.mk (Kd.R_lower (Kd.R_newM (M := fun k_ => (w.heap.size ≤ k_)) ho0 (below_size (by exact pB HB.out)) (fun k_ h_ => h_)) (below_size (by exact pB HB.out))); have n3_ := Aside0.mk (Kd.R_lower (Kd.R_newM (M := fun k_ => (w.heap.size ≤ k_)) ho1 (below_size (by exact pB HB.out)) (fun k_ h_ => h_)) (below_size (by exact pB HB.out))); have n4_ := Aside0.mk (blk_below (g := gb233) (o := .cells #[.int .i64 x234000_3, .slice Ao32 x234001_3.length co32, .slice Ao33 x234002_3.length co33] 24 (0, 0)) (by exact pK BK233.out) hb); have n5_ := Aside0.mk (blk_below (g := gb234) (o := .cells #[.int .i64 0, .slice none 0 0, .slice none 0 0] 24 (0, 0)) (by exact pK BK234.out) hb); have n6_ := Aside0.mk (below_step (by exact pB HB.out) hb); clear HO_234001; clear HO_234002; clear BK233; clear BK234; clear HB; have HO_234001 := n0_; have HO_234002 := n1_; have HO246 := n2_; have HO249 := n3_; have BK233 := n4_; have BK234 := n5_; have HB := n6_; clear n0_ n1_ n2_ n3_ n4_ n5_ n6_; (try clear hb); (try clear hb2); (try clear hk); (try clear hi); (try clear ho0); (try clear ho1); have hcz35_0 : w34.cell? ⟨gb233, 0, none⟩ = some (.int .i64 x234000_3) := (blk_cell BK233.out 0).trans rfl; have hcz35_1 : w34.cell? ⟨gb233, 1, none⟩ = some (.slice Ao32 x234001_3.length co32) := (blk_cell BK233.out 1).trans rfl; have hcz35_2 : w34.cell? ⟨gb233, 2, none⟩ = some (.slice Ao33 x234002_3.length co33) := (blk_cell BK233.out 2).trans rfl; have hfz35_0 := blk_frozen BK233.out 0; have hfz35_1 := blk_frozen BK233.out 1; have hfz35_2 := blk_frozen BK233.out 2; obtain ⟨Ao36, co36, eo36⟩ := Kd.R_slice HO246.out; subst eo36; obtain ⟨Ao37, co37, eo37⟩ := Kd.R_slice HO249.out; subst eo37))
                    go_roundg k3
                    case measure => have := HJ4.out; have := HJ15.out; have := HK3.out; omega
                    case rel => exact ⟨(x2_3), (t243), (t244), (t247), (.slice Ao36 t244.length co36), (.slice Ao37 t247.length co37), (by first | rfl | (simp; done) | (simp [*]; done)), H', ⟨by have := HJ4.out; have := HJ15.out; have := HK3.out; omega⟩, ⟨Kd.V_mono (Kd.R_V (by (with_reducible repeat (first | apply Kd.R_alloc | apply Kd.R_drewN | apply Kd.R_drew)); exact (Kd.R_far (p := ⟨gb233, 2, none⟩) (Kd.R_far (p := ⟨gb233, 1, none⟩) (Kd.R_far (p := ⟨gb233, 0, none⟩) (Kd.R_types (Kd.R_types (Kd.R_types HO246.out BK233.out (by decide)) BK234.out (by decide)) BK233.out (by decide)) (fun _ hk => hk.2) (.int .i64 t243)) (fun _ hk => hk.2) (.slice Ao36 t244.length co36)) (fun _ hk => hk.2) (.slice Ao37 t247.length co37)))) (fun _ hk => by exact ⟨(.inr (hk.1.1.1.1)), ⟨hk.1.1.2, hk.1.2⟩⟩)⟩, ⟨Kd.V_mono (Kd.R_V (by (with_reducible repeat (first | apply Kd.R_alloc | apply Kd.R_drewN | apply Kd.R_drew)); exact (Kd.R_far (p := ⟨gb233, 2, none⟩) (Kd.R_far (p := ⟨gb233, 1, none⟩) (Kd.R_far (p := ⟨gb233, 0, none⟩) (Kd.R_types (Kd.R_types (Kd.R_types HO249.out BK233.out (by decide)) BK234.out (by decide)) BK233.out (by decide)) (fun _ hk => hk.2) (.int .i64 t243)) (fun _ hk => hk.2) (.slice Ao36 t244.length co36)) (fun _ hk => hk.2) (.slice Ao37 t247.length co37)))) (fun _ hk => by exact ⟨(.inr (hk.1.1.1.1)), ⟨hk.1.1.2, hk.1.2⟩⟩)⟩, ⟨by (with_reducible repeat (first | refine blk_drewN ?_ _ | refine blk_drew ?_ | refine blk_alloc ?_ _)); refine blk_put (cs := #[.int .i64 t243, .slice Ao36 t244.length co36, .slice Ao33 x234002_3.length co33]) ?_ 2 _ rfl; (with_reducible repeat (first | refine blk_drewN ?_ _ | refine blk_drew ?_ | refine blk_alloc ?_ _)); refine blk_put (cs := #[.int .i64 t243, .slice Ao32 x234001_3.length co32, .slice Ao33 x234002_3.length co33]) ?_ 1 _ rfl; (with_reducible repeat (first | refine blk_drewN ?_ _ | refine blk_drew ?_ | refine blk_alloc ?_ _)); refine blk_put (cs := #[.int .i64 x234000_3, .slice Ao32 x234001_3.length co32, .slice Ao33 x234002_3.length co33]) ?_ 0 _ rfl; (with_reducible repeat (first | refine blk_drewN ?_ _ | refine blk_drew ?_ | refine blk_alloc ?_ _)); exact BK233.out⟩, ⟨by (with_reducible repeat (first | refine blk_drewN ?_ _ | refine blk_drew ?_ | refine blk_alloc ?_ _)); refine blk_far ?_ NB234_233.out _; (with_reducible repeat (first | refine blk_drewN ?_ _ | refine blk_drew ?_ | refine blk_alloc ?_ _)); refine blk_far ?_ NB234_233.out _; (with_reducible repeat (first | refine blk_drewN ?_ _ | refine blk_drew ?_ | refine blk_alloc ?_ _)); refine blk_far ?_ NB234_233.out _; (with_reducible repeat (first | refine blk_drewN ?_ _ | refine blk_drew ?_ | refine blk_alloc ?_ _)); exact BK234.out⟩, ⟨by repeat (first | (with_reducible first | exact HB.out | apply below_alloc | apply pw_below_drewN | apply below_drew1 | refine below_set ?_ GE233.out | refine below_set ?_ GE234.out) | exact HB.out)⟩⟩
                · rw [if_neg c19] at H
                  have c19b0 : decide (0 < (x234001_3.length : Int)) = false := decide_eq_false c19
                  have c19b1 : decide (0 < x234001_3.length) = false := decide_eq_false (by omega)
                  clear c19
                  have H' := Aside0.mk H
                  clear H
                  have hnb38 := NB233_234.out
                  have hnc38 := NB234_233.out
                  have hcz39_0 : wr.cell? ⟨gb233, 0, none⟩ = some (.int .i64 x234000_3) := (blk_cell BK233.out 0).trans rfl
                  have hcz39_1 : wr.cell? ⟨gb233, 1, none⟩ = some (u234001) := (blk_cell BK233.out 1).trans rfl
                  have hcz39_2 : wr.cell? ⟨gb233, 2, none⟩ = some (u234002) := (blk_cell BK233.out 2).trans rfl
                  have hfz39_0 := blk_frozen BK233.out 0
                  have hfz39_1 := blk_frozen BK233.out 1
                  have hfz39_2 := blk_frozen BK233.out 2
                  obtain ⟨Ao40, co40, eo40⟩ := Kd.V_slice HO_234001.out
                  subst eo40
                  go_wp2
                  go_loopg [] k3 (fun kq w' => ∃ (x234000_4 : Int) (x234001_4 : List Int) (x234002_4 : List Int) (u234001 : Value) (u234002 : Value), Aside0 (customsref33_Flush.l1 kq x2_3 x234000_4 x234001_4 x234002_4 = some (r1, r2, r3, r4, r5)) ∧ Aside0 (kq ≤ k3) ∧ Aside0 (Kd.V (Kd.int .i64) 3 w' w.heap.size (fun k_ => (P0_2_ k_ ∨ w.heap.size ≤ k_) ∧ k_ ≠ gb233 ∧ k_ ≠ gb234) u234001 x234001_4) ∧ Aside0 (Kd.V (Kd.int .i64) 3 w' w.heap.size (fun k_ => (P0_2_ k_ ∨ w.heap.size ≤ k_) ∧ k_ ≠ gb233 ∧ k_ ≠ gb234) u234002 x234002_4) ∧ Aside0 (w'.heap[gb233]? = some (.cells #[.int .i64 x234000_4, u234001, u234002] 24 (0, 0))) ∧ Aside0 (w'.heap[gb234]? = some (.cells #[.int .i64 0, (.slice none 0 0), (.slice none 0 0)] 24 (0, 0))) ∧ Aside0 (Below w.heap.size w w'))
                  case atStart => exact ⟨(x234000_3), (x234001_3), (x234002_3), (.slice Ao40 x234001_3.length co40), (u234002), H', ⟨Nat.le_refl _⟩, ⟨by exact pV HO_234001.out⟩, ⟨by exact pV HO_234002.out⟩, ⟨by exact pK BK233.out⟩, ⟨by exact pK BK234.out⟩, ⟨by exact pB HB.out⟩⟩
                  case round =>
                    clear H'
                    try clear c1; try clear c2; try clear p2; try clear c3; try clear p6; try clear c8; try clear c9; try clear c14; try clear c14b0; try clear c14b1; try clear c15; try clear c15b0; try clear c16; try clear c17; try clear c18; try clear c18b0; try clear c18b1; try clear c19; try clear c19b0; try clear c19b1; try clear c21; try clear c21b0; try clear c21b1; try clear c22; try clear c30; try clear c38; try clear hcz11_0; try clear hcz11_1; try clear hcz11_2; try clear hcz23_0; try clear hcz23_1; try clear hcz23_2; try clear hcz27_0; try clear hcz27_1; try clear hcz27_2; try clear hcz31_0; try clear hcz31_1; try clear hcz31_2; try clear hcz35_0; try clear hcz35_1; try clear hcz35_2; try clear hcz39_0; try clear hcz39_1; try clear hcz39_2; try clear hcz9_0; try clear hcz9_1; try clear hcz9_2; try clear hfz11_0; try clear hfz11_1; try clear hfz11_2; try clear hfz23_0; try clear hfz23_1; try clear hfz23_2; try clear hfz27_0; try clear hfz27_1; try clear hfz27_2; try clear hfz31_0; try clear hfz31_1; try clear hfz31_2; try clear hfz35_0; try clear hfz35_1; try clear hfz35_2; try clear hfz39_0; try clear hfz39_1; try clear hfz39_2; try clear hfz9_0; try clear hfz9_1; try clear hfz9_2; try clear p2
                    obtain ⟨x234000_4, x234001_4, x234002_4, u234001, u234002, HA, HK4, HO_234001, HO_234002, BK233, BK234, HB⟩ := hrel
                    cases gk with
                    | zero => exact absurd HA.out (by simp [customsref33_Flush.l1])
                    | succ k4 =>
                      have H := HA.out
                      clear HA
                      simp only [customsref33_Flush.l1] at H
                      by_cases c41 : (x234002_4.length : Int) > 0
                      · rw [if_pos c41] at H
                        have c41b0 : decide (0 < (x234002_4.length : Int)) = true := decide_eq_true c41
                        have c41b1 : decide (0 < x234002_4.length) = true := decide_eq_true (by omega)
                        clear c41
                        replace H := Option.bind_eq_some_iff.mp H
                        obtain ⟨⟨t252, t253, t256, t259⟩, A420, H⟩ := H
                        replace H : (customsref33_Flush.l1 k4 x2_3 t252 t253 t256) = some (r1, r2, r3, r4, r5) := H
                        have A42 := Aside0.mk A420
                        clear A420
                        have H' := Aside0.mk H
                        clear H
                        have hnb43 := NB233_234.out
                        have hnc43 := NB234_233.out
                        have hcz44_0 : wr.cell? ⟨gb233, 0, none⟩ = some (.int .i64 x234000_4) := (blk_cell BK233.out 0).trans rfl
                        have hcz44_1 : wr.cell? ⟨gb233, 1, none⟩ = some (u234001) := (blk_cell BK233.out 1).trans rfl
                        have hcz44_2 : wr.cell? ⟨gb233, 2, none⟩ = some (u234002) := (blk_cell BK233.out 2).trans rfl
                        have hfz44_0 := blk_frozen BK233.out 0
                        have hfz44_1 := blk_frozen BK233.out 1
                        have hfz44_2 := blk_frozen BK233.out 2
                        obtain ⟨Ao45, co45, eo45⟩ := Kd.V_slice HO_234002.out
                        subst eo45
                        obtain ⟨Ao46, co46, eo46⟩ := Kd.V_slice HO_234001.out
                        subst eo46
                        go_wp2_with (first | ((with_reducible refine gate_callee (f := 22) rfl ?_); refine goesL_ (some 53) rfl rfl Try.func22 (by kernel_rfl) rfl #[.agg #[.int .i64 x234000_4, .slice Ao46 x234001_4.length co46, .slice Ao45 x234002_4.length co45], .int .i64 0] rfl (by (try simp only [List.map_toArray, List.map_cons, List.map_nil]); first | done | rfl | (simp only [List.length_drop, List.length_take]; rfl)) ?_; (with_reducible refine (customsref33_Confirm.calls x234000_4 (fun k_ => ((P0_2_ k_ ∨ w.heap.size ≤ k_) ∧ (k_ ≠ gb233 ∧ k_ ≠ gb234))) _ _ x234001_4 _ _ x234002_4 0 t252 t253 t256 t259 _ ?side1 ?side2 ?side3 A42.out).mono ?_); (case side1 => exact HO_234001.out); (case side2 => exact pC (Kd.V_reads' HO_234002.out).2.2); (case side3 => exact (Kd.V_reads' HO_234002.out).2.1); rintro e w47 ⟨v254, v257, rfl, ho0, ho1, hb⟩; refine ⟨_, rfl, ?_⟩; have n0_ := Aside0.mk (Kd.V_elder' (by exact pV HO_234001.out) (Kd.R_base ho1) hb); have n1_ := Aside0.mk (Kd.V_elder' (by exact pV HO_234002.out) (Kd.R_base ho1) hb); have n2_ := Aside0.mk (Kd.V_lower (Kd.V_mono (ok' := fun k_ => (P0_2_ k_ ∨ w.heap.size ≤ k_) ∧ some k_ ≠ (v257 : Value).ownBlock ∧ k_ ≠ gb233 ∧ k_ ≠ gb234) ho0 (fun k_ hk_ => ⟨Or.elim hk_.1 (fun hs_ => hs_.1) (fun hn_ => (.inr (Nat.le_trans (below_size (by exact pB HB.out)) hn_))), hk_.2, Or.elim hk_.1 (fun hs_ => hs_.2.1) (fun hn_ => (Kd.freshB (g := gb233) (o := .cells #[.int .i64 x234000_4, .slice Ao46 x234001_4.length co46, .slice Ao45 x234002_4.length co45] 24 (0, 0)) (by exact pK BK233.out) k_ hn_)), Or.elim hk_.1 (fun hs_ => hs_.2.2) (fun hn_ => (Kd.freshB (g := gb234) (o := .cells #[.int .i64 0, .slice none 0 0, .slice none 0 0] 24 (0, 0)) (by exact pK BK234.out) k_ hn_))⟩)) (below_size (by exact pB HB.out))); have n3_ := Aside0.mk (Kd.R_lower (Kd.R_newM (M := fun k_ => (w.heap.size ≤ k_)) (Kd.R_mono (ok' := fun k_ => True) ho1 (fun _ hk_ => trivial)) (below_size (by exact pB HB.out)) (fun k_ h_ => h_)) (below_size (by exact pB HB.out))); have n4_ := Aside0.mk (blk_below (g := gb233) (o := .cells #[.int .i64 x234000_4, .slice Ao46 x234001_4.length co46, .slice Ao45 x234002_4.length co45] 24 (0, 0)) (by exact pK BK233.out) hb); have n5_ := Aside0.mk (blk_below (g := gb234) (o := .cells #[.int .i64 0, .slice none 0 0, .slice none 0 0] 24 (0, 0)) (by exact pK BK234.out) hb); have n6_ := Aside0.mk (below_step (by exact pB HB.out) hb); clear HO_234001; clear HO_234002; clear BK233; clear BK234; clear HB; have HO_234001 := n0_; have HO_234002 := n1_; have HO255 := n2_; have HO258 := n3_; have BK233 := n4_; have BK234 := n5_; have HB := n6_; clear n0_ n1_ n2_ n3_ n4_ n5_ n6_; (try clear hb); (try clear hb2); (try clear hk); (try clear hi); (try clear ho0); (try clear ho1); have hcz48_0 : w47.cell? ⟨gb233, 0, none⟩ = some (.int .i64 x234000_4) := (blk_cell BK233.out 0).trans rfl; have hcz48_1 : w47.cell? ⟨gb233, 1, none⟩ = some (.slice Ao46 x234001_4.length co46) := (blk_cell BK233.out 1).trans rfl; have hcz48_2 : w47.cell? ⟨gb233, 2, none⟩ = some (.slice Ao45 x234002_4.length co45) := (blk_cell BK233.out 2).trans rfl; have hfz48_0 := blk_frozen BK233.out 0; have hfz48_1 := blk_frozen BK233.out 1; have hfz48_2 := blk_frozen BK233.out 2; obtain ⟨Ao49, co49, eo49⟩ := Kd.V_slice HO255.out; subst eo49; obtain ⟨Ao50, co50, eo50⟩ := Kd.R_slice HO258.out; subst eo50))
                        go_roundg k4
                        case measure => have := HJ4.out; have := HJ15.out; have := HK3.out; have := HK4.out; omega
                        case rel => exact ⟨(t252), (t253), (t256), (.slice Ao49 t253.length co49), (.slice Ao50 t256.length co50), H', ⟨by have := HJ4.out; have := HJ15.out; have := HK3.out; have := HK4.out; omega⟩, ⟨by (with_reducible repeat (first | apply Kd.V_alloc | apply Kd.V_drewN | apply Kd.V_drew)); exact Kd.V_mono (Kd.V_far (p := ⟨gb233, 2, none⟩) (Kd.V_far (p := ⟨gb233, 1, none⟩) (Kd.V_far (p := ⟨gb233, 0, none⟩) (Kd.V_mono HO255.out (fun k_ hk => (⟨hk, hk.2.2.1⟩ : _ ∧ k_ ≠ gb233))) (fun _ hk => hk.2) (.int .i64 t252)) (fun _ hk => hk.2) (.slice Ao49 t253.length co49)) (fun _ hk => hk.2) (.slice Ao50 t256.length co50)) (fun _ hk => ⟨hk.1.1, ⟨hk.1.2.2.1, hk.1.2.2.2⟩⟩)⟩, ⟨Kd.V_mono (Kd.R_V (by (with_reducible repeat (first | apply Kd.R_alloc | apply Kd.R_drewN | apply Kd.R_drew)); exact (Kd.R_far (p := ⟨gb233, 2, none⟩) (Kd.R_far (p := ⟨gb233, 1, none⟩) (Kd.R_far (p := ⟨gb233, 0, none⟩) (Kd.R_types (Kd.R_types (Kd.R_types HO258.out BK233.out (by decide)) BK234.out (by decide)) BK233.out (by decide)) (fun _ hk => hk.2) (.int .i64 t252)) (fun _ hk => hk.2) (.slice Ao49 t253.length co49)) (fun _ hk => hk.2) (.slice Ao50 t256.length co50)))) (fun _ hk => by exact ⟨(.inr (hk.1.1.1.1)), ⟨hk.1.1.2, hk.1.2⟩⟩)⟩, ⟨by (with_reducible repeat (first | refine blk_drewN ?_ _ | refine blk_drew ?_ | refine blk_alloc ?_ _)); refine blk_put (cs := #[.int .i64 t252, .slice Ao49 t253.length co49, .slice Ao45 x234002_4.length co45]) ?_ 2 _ rfl; (with_reducible repeat (first | refine blk_drewN ?_ _ | refine blk_drew ?_ | refine blk_alloc ?_ _)); refine blk_put (cs := #[.int .i64 t252, .slice Ao46 x234001_4.length co46, .slice Ao45 x234002_4.length co45]) ?_ 1 _ rfl; (with_reducible repeat (first | refine blk_drewN ?_ _ | refine blk_drew ?_ | refine blk_alloc ?_ _)); refine blk_put (cs := #[.int .i64 x234000_4, .slice Ao46 x234001_4.length co46, .slice Ao45 x234002_4.length co45]) ?_ 0 _ rfl; (with_reducible repeat (first | refine blk_drewN ?_ _ | refine blk_drew ?_ | refine blk_alloc ?_ _)); exact BK233.out⟩, ⟨by (with_reducible repeat (first | refine blk_drewN ?_ _ | refine blk_drew ?_ | refine blk_alloc ?_ _)); refine blk_far ?_ NB234_233.out _; (with_reducible repeat (first | refine blk_drewN ?_ _ | refine blk_drew ?_ | refine blk_alloc ?_ _)); refine blk_far ?_ NB234_233.out _; (with_reducible repeat (first | refine blk_drewN ?_ _ | refine blk_drew ?_ | refine blk_alloc ?_ _)); refine blk_far ?_ NB234_233.out _; (with_reducible repeat (first | refine blk_drewN ?_ _ | refine blk_drew ?_ | refine blk_alloc ?_ _)); exact BK234.out⟩, ⟨by repeat (first | (with_reducible first | exact HB.out | apply below_alloc | apply pw_below_drewN | apply below_drew1 | refine below_set ?_ GE233.out | refine below_set ?_ GE234.out) | exact HB.out)⟩⟩
                      · rw [if_neg c41] at H
                        have c41b0 : decide (0 < (x234002_4.length : Int)) = false := decide_eq_false c41
                        have c41b1 : decide (0 < x234002_4.length) = false := decide_eq_false (by omega)
                        clear c41
                        simp only [Option.some.injEq, Prod.mk.injEq] at H
                        obtain ⟨rfl, rfl, rfl, rfl, rfl⟩ := H
                        have hnb51 := NB233_234.out
                        have hnc51 := NB234_233.out
                        have hcz52_0 : wr.cell? ⟨gb233, 0, none⟩ = some (.int .i64 x234000_4) := (blk_cell BK233.out 0).trans rfl
                        have hcz52_1 : wr.cell? ⟨gb233, 1, none⟩ = some (u234001) := (blk_cell BK233.out 1).trans rfl
                        have hcz52_2 : wr.cell? ⟨gb233, 2, none⟩ = some (u234002) := (blk_cell BK233.out 2).trans rfl
                        have hfz52_0 := blk_frozen BK233.out 0
                        have hfz52_1 := blk_frozen BK233.out 1
                        have hfz52_2 := blk_frozen BK233.out 2
                        obtain ⟨Ao53, co53, eo53⟩ := Kd.V_slice HO_234002.out
                        subst eo53
                        have hcz54_0 : wr.cell? ⟨gb234, 0, none⟩ = some (.int .i64 0) := (blk_cell BK234.out 0).trans rfl
                        have hcz54_1 : wr.cell? ⟨gb234, 1, none⟩ = some (.slice none 0 0) := (blk_cell BK234.out 1).trans rfl
                        have hcz54_2 : wr.cell? ⟨gb234, 2, none⟩ = some (.slice none 0 0) := (blk_cell BK234.out 2).trans rfl
                        have hfz54_0 := blk_frozen BK234.out 0
                        have hfz54_1 := blk_frozen BK234.out 1
                        have hfz54_2 := blk_frozen BK234.out 2
                        obtain ⟨Ao55, co55, eo55⟩ := Kd.V_slice HO_234001.out
                        subst eo55
                        go_wp2
                        refine bodyPost_ret (results_ctt rfl _ _ gb234 24 #[.int .i64 x234000_4, .slice Ao55 x234001_4.length co55, .slice Ao53 x234002_4.length co53] (0, 0) _ rfl (by (with_reducible repeat (first | refine blk_drewN ?_ _ | refine blk_drew ?_ | refine blk_alloc ?_ _)); refine blk_put (cs := #[.int .i64 x234000_4, .slice Ao55 x234001_4.length co55, .slice none 0 0]) ?_ 2 _ rfl; (with_reducible repeat (first | refine blk_drewN ?_ _ | refine blk_drew ?_ | refine blk_alloc ?_ _)); refine blk_put (cs := #[.int .i64 x234000_4, .slice none 0 0, .slice none 0 0]) ?_ 1 _ rfl; (with_reducible repeat (first | refine blk_drewN ?_ _ | refine blk_drew ?_ | refine blk_alloc ?_ _)); refine blk_put (cs := #[.int .i64 0, .slice none 0 0, .slice none 0 0]) ?_ 0 _ rfl; (with_reducible repeat (first | refine blk_drewN ?_ _ | refine blk_drew ?_ | refine blk_alloc ?_ _)); exact BK234.out) Try.underlying24 rfl (by kernel_rfl)) rfl ?_
                        exact ⟨_, _, by first | rfl | (simp [errW_none, errW_some] <;> rfl) | (simp [*, errW_none, errW_some] <;> rfl), by (with_reducible repeat (first | apply Kd.V_alloc | apply Kd.V_drewN | apply Kd.V_drew)); exact Kd.V_mono (Kd.V_far (p := ⟨gb234, 2, none⟩) (Kd.V_far (p := ⟨gb234, 1, none⟩) (Kd.V_far (p := ⟨gb234, 0, none⟩) (Kd.V_mono HO_234001.out (fun k_ hk => (⟨hk, hk.2.2⟩ : _ ∧ k_ ≠ gb234))) (fun _ hk => hk.2) (.int .i64 x234000_4)) (fun _ hk => hk.2) (.slice Ao55 x234001_4.length co55)) (fun _ hk => hk.2) (.slice Ao53 x234002_4.length co53)) (fun _ hk => hk.1.1), by (with_reducible repeat (first | apply Kd.V_alloc | apply Kd.V_drewN | apply Kd.V_drew)); exact Kd.V_mono (Kd.V_far (p := ⟨gb234, 2, none⟩) (Kd.V_far (p := ⟨gb234, 1, none⟩) (Kd.V_far (p := ⟨gb234, 0, none⟩) (Kd.V_mono HO_234002.out (fun k_ hk => (⟨hk, hk.2.2⟩ : _ ∧ k_ ≠ gb234))) (fun _ hk => hk.2) (.int .i64 x234000_4)) (fun _ hk => hk.2) (.slice Ao55 x234001_4.length co55)) (fun _ hk => hk.2) (.slice Ao53 x234002_4.length co53)) (fun _ hk => hk.1.1), by repeat (first | (with_reducible first | exact HB.out | apply below_alloc | apply pw_below_drewN | apply below_drew1 | refine below_set ?_ GE233.out | refine below_set ?_ GE234.out) | exact HB.out)⟩
          · rw [if_neg c18] at H
            have c18b0 : (x9_15 == 0) = false := beq_eq_false_iff_ne.mpr c18
            have c18b1 : (x9_15 != 0) = true := bne_iff_ne.mpr c18
            simp only [Option.some.injEq, Prod.mk.injEq] at H
            obtain ⟨rfl, rfl, rfl, rfl, rfl⟩ := H
            have hnb56 := NB234_233.out
            have hnc56 := NB233_234.out
            have hcz57_0 : wc.cell? ⟨gb234, 0, none⟩ = some (.int .i64 0) := (blk_cell BK234.out 0).trans rfl
            have hcz57_1 : wc.cell? ⟨gb234, 1, none⟩ = some (.slice none 0 0) := (blk_cell BK234.out 1).trans rfl
            have hcz57_2 : wc.cell? ⟨gb234, 2, none⟩ = some (.slice none 0 0) := (blk_cell BK234.out 2).trans rfl
            have hfz57_0 := blk_frozen BK234.out 0
            have hfz57_1 := blk_frozen BK234.out 1
            have hfz57_2 := blk_frozen BK234.out 2
            go_wp2
            refine bodyPost_ret (results_ctt rfl _ _ gb234 24 #[.int .i64 0, .slice none 0 0, .slice none 0 0] (0, 0) _ rfl (by (with_reducible repeat (first | refine blk_drewN ?_ _ | refine blk_drew ?_ | refine blk_alloc ?_ _)); refine blk_put (cs := #[.int .i64 0, .slice none 0 0, .slice none 0 0]) ?_ 2 _ rfl; (with_reducible repeat (first | refine blk_drewN ?_ _ | refine blk_drew ?_ | refine blk_alloc ?_ _)); refine blk_put (cs := #[.int .i64 0, .slice none 0 0, .slice none 0 0]) ?_ 1 _ rfl; (with_reducible repeat (first | refine blk_drewN ?_ _ | refine blk_drew ?_ | refine blk_alloc ?_ _)); refine blk_put (cs := #[.int .i64 0, .slice none 0 0, .slice none 0 0]) ?_ 0 _ rfl; (with_reducible repeat (first | refine blk_drewN ?_ _ | refine blk_drew ?_ | refine blk_alloc ?_ _)); exact BK234.out) Try.underlying24 rfl (by kernel_rfl)) rfl ?_
            exact ⟨_, _, by first | rfl | (simp [errW_none, errW_some] <;> rfl) | (simp [*, errW_none, errW_some] <;> rfl), by first | exact Kd.R_nil _ _ _ _ _ | exact Kd.N_nil _ _ _ _ _ | exact Kd.V_nil _ _ _ _ _ | exact Kd.Q_nil _ _ _ _ _ | exact Kd.S_nil _ _ _ _ _, by first | exact Kd.R_nil _ _ _ _ _ | exact Kd.N_nil _ _ _ _ _ | exact Kd.V_nil _ _ _ _ _ | exact Kd.Q_nil _ _ _ _ _ | exact Kd.S_nil _ _ _ _ _, by repeat (first | (with_reducible first | exact HB.out | apply below_alloc | apply pw_below_drewN | apply below_drew1 | refine below_set ?_ GE233.out | refine below_set ?_ GE234.out) | exact HB.out)⟩

/-! ### customslaw38_ChannelFlushRaw: function 3 -/
def customslaw38_ChannelFlushRaw.j0 : Nat → Int → Int → Bool → Int → List Int → List Int → Option (Bool)
  | 0, _, _, _, _, _, _ => none
  | k + 1, x1, x2, x30, x265000, x265001, x265002 => if x30 = true then ((customslaw38_awake.f k).bind fun t265 => (some t265)) else ((channel_Flush.f x265000 x265001 x265002 x1 x2).bind fun bt266 => ((customsref33_Flush.f k x265000 x265001 x265002 x1 x2).bind fun bt276 => (if bt266.2.2.2.2 = bt276.2.2.2.2 then (if bt266.2.2.2.1 = bt276.2.2.2.1 then ((customsref33_SameLine.f k bt266.1 bt266.2.1 bt266.2.2.1 bt276.1 bt276.2.1 bt276.2.2.1).bind fun t286 => (if t286 = true then ((customslaw38_awake.f k).bind fun t287 => (some t287)) else (some false))) else (some false)) else (some false))))
def customslaw38_ChannelFlushRaw.f (k : Nat) (a0_0 : Int) (l0_1 : List Int) (l0_2 : List Int) (a1 : Int) (a2 : Int) : Option (Bool) := if (l0_1.length : Int) > 100 then (customslaw38_ChannelFlushRaw.j0 k a1 a2 true a0_0 l0_1 l0_2) else (if (l0_2.length : Int) > 100 then (customslaw38_ChannelFlushRaw.j0 k a1 a2 true a0_0 l0_1 l0_2) else (if a1 > 2000 then (customslaw38_ChannelFlushRaw.j0 k a1 a2 (decide (a1 ≤ 1000000)) a0_0 l0_1 l0_2) else (customslaw38_ChannelFlushRaw.j0 k a1 a2 false a0_0 l0_1 l0_2)))
theorem customslaw38_ChannelFlushRaw.mono_l : ∀ k, (∀ y0 y1 y2 y3 y4 y5, LeO (customslaw38_ChannelFlushRaw.j0 k y0 y1 y2 y3 y4 y5) (customslaw38_ChannelFlushRaw.j0 (k + 1) y0 y1 y2 y3 y4 y5))
  | 0 => fun _ _ _ _ _ _ r h => by simp [customslaw38_ChannelFlushRaw.j0] at h
  | k + 1 => by
    have ih0 := customslaw38_ChannelFlushRaw.mono_l k
    · intro y0 y1 y2 y3 y4 y5
      unfold customslaw38_ChannelFlushRaw.j0
      repeat' first
      | (with_reducible exact ih0 _ _ _ _ _ _)
      | (with_reducible exact customslaw38_awake.mono _)
      | (with_reducible exact customsref33_Flush.mono _ _ _ _ _ _)
      | (with_reducible exact customsref33_SameLine.mono _ _ _ _ _ _ _)
      | (with_reducible exact LeO.refl _)
      | (with_reducible exact LeO.none _)
      | (with_reducible refine LeO.ite ?_ ?_)
      | (with_reducible refine LeO.bind ?_ (fun _ => ?_))
      | exact ih0 _ _ _ _ _ _
      | exact customslaw38_awake.mono _
      | exact customsref33_Flush.mono _ _ _ _ _ _
      | exact customsref33_SameLine.mono _ _ _ _ _ _ _
      | exact LeO.none _
      | refine LeO.ite ?_ ?_
      | refine LeO.bind ?_ (fun _ => ?_)
theorem customslaw38_ChannelFlushRaw.mono : ∀ a0 a1 a2 a3 a4 k, LeO (customslaw38_ChannelFlushRaw.f k a0 a1 a2 a3 a4) (customslaw38_ChannelFlushRaw.f (k + 1) a0 a1 a2 a3 a4) := by
  intro a0 a1 a2 a3 a4 k
  have ih0 := customslaw38_ChannelFlushRaw.mono_l k
  unfold customslaw38_ChannelFlushRaw.f
  repeat' first
      | (with_reducible exact ih0 _ _ _ _ _ _)
      | (with_reducible exact customslaw38_awake.mono _)
      | (with_reducible exact customsref33_Flush.mono _ _ _ _ _ _)
      | (with_reducible exact customsref33_SameLine.mono _ _ _ _ _ _ _)
      | (with_reducible exact LeO.refl _)
      | (with_reducible exact LeO.none _)
      | (with_reducible refine LeO.ite ?_ ?_)
      | (with_reducible refine LeO.bind ?_ (fun _ => ?_))
      | exact ih0 _ _ _ _ _ _
      | exact customslaw38_awake.mono _
      | exact customsref33_Flush.mono _ _ _ _ _ _
      | exact customsref33_SameLine.mono _ _ _ _ _ _ _
      | exact LeO.none _
      | refine LeO.ite ?_ ?_
      | refine LeO.bind ?_ (fun _ => ?_)
set_option maxHeartbeats 8000000 in
set_option maxRecDepth 100000 in
theorem customslaw38_ChannelFlushRaw.calls (k : Nat) (a0_0 : Int) (A0_1 : Option Addr) (c0_1 : Nat) (l0_1 : List Int) (A0_2 : Option Addr) (c0_2 : Nat) (l0_2 : List Int) (a1 : Int) (a2 : Int) (w : World) (hr0_1 : Kd.C (Kd.int .i64) w A0_1 l0_1.length l0_1) (hc0_1 : l0_1.length ≤ c0_1) (hr0_2 : Kd.C (Kd.int .i64) w A0_2 l0_2.length l0_2) (hc0_2 : l0_2.length ≤ c0_2) (h : customslaw38_ChannelFlushRaw.f k a0_0 l0_1 l0_2 a1 a2 = some true) :
    Calls Try.prog 3 #[.agg #[.int .i64 a0_0, .slice A0_1 l0_1.length c0_1, .slice A0_2 l0_2.length c0_2], .int .i64 a1, .int .i64 a2] w fun e w' => e = .returned (.bool true) ∧ Below w.heap.size w w' := by
  have hu24 := Try.underlying24
  have HR0_1 := Aside0.mk hr0_1
  have HC0_1 := Aside0.mk hc0_1
  clear hr0_1 hc0_1
  have HR0_2 := Aside0.mk hr0_2
  have HC0_2 := Aside0.mk hc0_2
  clear hr0_2 hc0_2
  have HB := Aside0.mk (Below.refl w.heap.size w)
  have H : (if (l0_1.length : Int) > 100 then (customslaw38_ChannelFlushRaw.j0 k a1 a2 true a0_0 l0_1 l0_2) else (if (l0_2.length : Int) > 100 then (customslaw38_ChannelFlushRaw.j0 k a1 a2 true a0_0 l0_1 l0_2) else (if a1 > 2000 then (customslaw38_ChannelFlushRaw.j0 k a1 a2 (decide (a1 ≤ 1000000)) a0_0 l0_1 l0_2) else (customslaw38_ChannelFlushRaw.j0 k a1 a2 false a0_0 l0_1 l0_2)))) = some true := h
  clear h
  have HC4 := Aside0.mk H
  clear H
  go_enter Try.func3, Try.ntmps3
  go_upto_region 1 with (first | ((with_reducible refine gate_dst (N := 3) rfl ?_); (try (refine gate_guard (by rfl) ?_; dsimp only)); refine box_event ?hg (N := 3) ?hd (cs := #[.int .i64 a0_0, .slice A0_1 l0_1.length c0_1, .slice A0_2 l0_2.length c0_2]) (t := 24) ?hr ?_; (case hd => rfl); (case hg => rfl); (case hr => first | (go_simp; done) | (go_simp; rfl)); intro gb264 hg w5 hbox hb; have n0_ := Aside0.mk (below_step (by exact pB HB.out) hb); have n1_ := Aside0.mk (hbox); have n2_ := Aside0.mk ((by rw [hg]; exact (below_size (by exact pB HB.out)) : w.heap.size ≤ gb264)); have n3_ := Aside0.mk ((by rw [hg]; exact (below_size (by exact pB HB.out)) : w.heap.size ≤ gb264)); clear HB; have HB := n0_; have BK264 := n1_; have GW264 := n2_; have GE264 := n3_; clear n0_ n1_ n2_ n3_; clear hb hbox hg))
  (try simp only [Act.put, List.setIfInBounds_toArray, List.set_cons_zero, List.set_cons_succ])
  go_cut [30] (fun v30 wc => ∃ (kq : Nat) (x30_3 : Bool), v30 = .bool x30_3 ∧ Aside0 (customslaw38_ChannelFlushRaw.j0 kq a1 a2 x30_3 a0_0 l0_1 l0_2 = some true) ∧ Aside0 (kq ≤ k) ∧ Aside0 (wc.heap[gb264]? = some (.cells #[.int .i64 a0_0, (.slice A0_1 l0_1.length c0_1), (.slice A0_2 l0_2.length c0_2)] 24 (0, 0))) ∧ Aside0 (Below w.heap.size w wc))
  case first => as_aux_lemma =>
    have H := HC4.out
    clear HC4
    by_cases c6 : (l0_1.length : Int) > 100
    · rw [if_pos c6] at H
      have c6b0 : decide (100 < (l0_1.length : Int)) = true := decide_eq_true c6
      have c6b1 : decide (100 < l0_1.length) = true := decide_eq_true (by omega)
      clear c6
      (first | rw [c6b0] | (simp only [i64_w, i32_w]; rw [c6b0]) | skip)
      have H' := Aside0.mk H
      clear H
      have hcz7_0 : w5.cell? ⟨gb264, 0, none⟩ = some (.int .i64 a0_0) := (blk_cell BK264.out 0).trans rfl
      have hcz7_1 : w5.cell? ⟨gb264, 1, none⟩ = some (.slice A0_1 l0_1.length c0_1) := (blk_cell BK264.out 1).trans rfl
      have hcz7_2 : w5.cell? ⟨gb264, 2, none⟩ = some (.slice A0_2 l0_2.length c0_2) := (blk_cell BK264.out 2).trans rfl
      have hfz7_0 := blk_frozen BK264.out 0
      have hfz7_1 := blk_frozen BK264.out 1
      have hfz7_2 := blk_frozen BK264.out 2
      go_wp2
      go_meet
      case rel => exact ⟨_, (true), (by first | rfl | (simp; done) | (simp [*]; done)), H', ⟨by first | omega | exact Nat.le_refl _⟩, ⟨by exact pK BK264.out⟩, ⟨by exact pB HB.out⟩⟩
    · rw [if_neg c6] at H
      have c6b0 : decide (100 < (l0_1.length : Int)) = false := decide_eq_false c6
      have c6b1 : decide (100 < l0_1.length) = false := decide_eq_false (by omega)
      clear c6
      (first | rw [c6b0] | (simp only [i64_w, i32_w]; rw [c6b0]) | skip)
      by_cases c8 : (l0_2.length : Int) > 100
      · rw [if_pos c8] at H
        have c8b0 : decide (100 < (l0_2.length : Int)) = true := decide_eq_true c8
        have c8b1 : decide (100 < l0_2.length) = true := decide_eq_true (by omega)
        clear c8
        have H' := Aside0.mk H
        clear H
        have hcz9_0 : w5.cell? ⟨gb264, 0, none⟩ = some (.int .i64 a0_0) := (blk_cell BK264.out 0).trans rfl
        have hcz9_1 : w5.cell? ⟨gb264, 1, none⟩ = some (.slice A0_1 l0_1.length c0_1) := (blk_cell BK264.out 1).trans rfl
        have hcz9_2 : w5.cell? ⟨gb264, 2, none⟩ = some (.slice A0_2 l0_2.length c0_2) := (blk_cell BK264.out 2).trans rfl
        have hfz9_0 := blk_frozen BK264.out 0
        have hfz9_1 := blk_frozen BK264.out 1
        have hfz9_2 := blk_frozen BK264.out 2
        go_wp2
        go_meet
        case rel => exact ⟨_, (true), (by first | rfl | (simp; done) | (simp [*]; done)), H', ⟨by first | omega | exact Nat.le_refl _⟩, ⟨by exact pK BK264.out⟩, ⟨by exact pB HB.out⟩⟩
      · rw [if_neg c8] at H
        have c8b0 : decide (100 < (l0_2.length : Int)) = false := decide_eq_false c8
        have c8b1 : decide (100 < l0_2.length) = false := decide_eq_false (by omega)
        clear c8
        by_cases c10 : a1 > 2000
        · rw [if_pos c10] at H
          have c10b0 : decide (2000 < a1) = true := decide_eq_true c10
          clear c10
          have H' := Aside0.mk H
          clear H
          have hcz11_0 : w5.cell? ⟨gb264, 0, none⟩ = some (.int .i64 a0_0) := (blk_cell BK264.out 0).trans rfl
          have hcz11_1 : w5.cell? ⟨gb264, 1, none⟩ = some (.slice A0_1 l0_1.length c0_1) := (blk_cell BK264.out 1).trans rfl
          have hcz11_2 : w5.cell? ⟨gb264, 2, none⟩ = some (.slice A0_2 l0_2.length c0_2) := (blk_cell BK264.out 2).trans rfl
          have hfz11_0 := blk_frozen BK264.out 0
          have hfz11_1 := blk_frozen BK264.out 1
          have hfz11_2 := blk_frozen BK264.out 2
          go_wp2
          go_meet
          case rel => exact ⟨_, (decide (a1 ≤ 1000000)), (by first | rfl | (simp; done) | (simp [*]; done)), H', ⟨by first | omega | exact Nat.le_refl _⟩, ⟨by exact pK BK264.out⟩, ⟨by exact pB HB.out⟩⟩
        · rw [if_neg c10] at H
          have c10b0 : decide (2000 < a1) = false := decide_eq_false c10
          clear c10
          have H' := Aside0.mk H
          clear H
          have hcz12_0 : w5.cell? ⟨gb264, 0, none⟩ = some (.int .i64 a0_0) := (blk_cell BK264.out 0).trans rfl
          have hcz12_1 : w5.cell? ⟨gb264, 1, none⟩ = some (.slice A0_1 l0_1.length c0_1) := (blk_cell BK264.out 1).trans rfl
          have hcz12_2 : w5.cell? ⟨gb264, 2, none⟩ = some (.slice A0_2 l0_2.length c0_2) := (blk_cell BK264.out 2).trans rfl
          have hfz12_0 := blk_frozen BK264.out 0
          have hfz12_1 := blk_frozen BK264.out 1
          have hfz12_2 := blk_frozen BK264.out 2
          go_wp2
          go_meet
          case rel => exact ⟨_, (false), (by first | rfl | (simp; done) | (simp [*]; done)), H', ⟨by first | omega | exact Nat.le_refl _⟩, ⟨by exact pK BK264.out⟩, ⟨by exact pB HB.out⟩⟩
  case rest => as_aux_lemma =>
    clear HC4
    try clear c1; try clear p2; try clear c3; try clear c6; try clear c6b0; try clear c6b1; try clear c8; try clear c8b0; try clear c8b1; try clear c10; try clear c10b0; try clear hcz11_0; try clear hcz11_1; try clear hcz11_2; try clear hcz12_0; try clear hcz12_1; try clear hcz12_2; try clear hcz7_0; try clear hcz7_1; try clear hcz7_2; try clear hcz9_0; try clear hcz9_1; try clear hcz9_2; try clear hfz11_0; try clear hfz11_1; try clear hfz11_2; try clear hfz12_0; try clear hfz12_1; try clear hfz12_2; try clear hfz7_0; try clear hfz7_1; try clear hfz7_2; try clear hfz9_0; try clear hfz9_1; try clear hfz9_2
    obtain ⟨kq, x30_3, rfl, HA, HJ3, BK264, HB⟩ := hcut
    cases kq with
    | zero => exact absurd HA.out (by simp [customslaw38_ChannelFlushRaw.j0])
    | succ kj3 =>
      have H := HA.out
      clear HA
      simp only [customslaw38_ChannelFlushRaw.j0] at H
      by_cases c13 : x30_3 = true
      · subst c13
        have H1 : ((customslaw38_awake.f kj3).bind fun t265 => (some t265)) = some true := by rw [if_pos rfl] at H; exact H
        clear H
        have H := H1
        clear H1
        replace H := Option.bind_eq_some_iff.mp H
        obtain ⟨t265, A140, H⟩ := H
        replace H : (some t265) = some true := H
        have A14 := Aside0.mk A140
        clear A140
        have HTR := Aside0.mk (Option.some.inj H)
        clear H
        go_wp2_with (first | ((with_reducible refine gate_callee (f := 7) rfl ?_); refine goesL_ (some 31) rfl rfl Try.func7 (by kernel_rfl) rfl #[] rfl (by (try simp only [List.map_toArray, List.map_cons, List.map_nil]); first | done | rfl | (simp only [List.length_drop, List.length_take]; rfl)) ?_; (with_reducible refine (customslaw38_awake.calls kj3  t265 _ A14.out).mono ?_); rintro e w15 ⟨rfl, hb⟩; refine ⟨_, rfl, ?_⟩; have n0_ := Aside0.mk (below_step (by exact pB HB.out) hb); clear HB; have HB := n0_; clear n0_; (try clear hb); (try clear hb2); (try clear hk); (try clear hi)))
        go_ret
        exact ⟨by first | rfl | (rw [HTR.out]; first | done | rfl) | (simp [errW_none, errW_some] <;> rfl) | (simp [*, errW_none, errW_some] <;> rfl), by exact pB HB.out⟩
      · replace c13 := Bool.eq_false_iff.mpr c13
        subst c13
        have H1 : ((channel_Flush.f a0_0 l0_1 l0_2 a1 a2).bind fun bt266 => ((customsref33_Flush.f kj3 a0_0 l0_1 l0_2 a1 a2).bind fun bt276 => (if bt266.2.2.2.2 = bt276.2.2.2.2 then (if bt266.2.2.2.1 = bt276.2.2.2.1 then ((customsref33_SameLine.f kj3 bt266.1 bt266.2.1 bt266.2.2.1 bt276.1 bt276.2.1 bt276.2.2.1).bind fun t286 => (if t286 = true then ((customslaw38_awake.f kj3).bind fun t287 => (some t287)) else (some false))) else (some false)) else (some false)))) = some true := by rw [if_neg (show ¬ (false = true) by decide)] at H; exact H
        clear H
        have H := H1
        clear H1
        replace H := Option.bind_eq_some_iff.mp H
        obtain ⟨⟨t266, t267, t270, t273, t274⟩, A160, H⟩ := H
        replace H : ((customsref33_Flush.f kj3 a0_0 l0_1 l0_2 a1 a2).bind fun bt276 => (if t274 = bt276.2.2.2.2 then (if t273 = bt276.2.2.2.1 then ((customsref33_SameLine.f kj3 t266 t267 t270 bt276.1 bt276.2.1 bt276.2.2.1).bind fun t286 => (if t286 = true then ((customslaw38_awake.f kj3).bind fun t287 => (some t287)) else (some false))) else (some false)) else (some false))) = some true := H
        have A16 := Aside0.mk A160
        clear A160
        replace H := Option.bind_eq_some_iff.mp H
        obtain ⟨⟨t276, t277, t280, t283, t284⟩, A170, H⟩ := H
        replace H : (if t274 = t284 then (if t273 = t283 then ((customsref33_SameLine.f kj3 t266 t267 t270 t276 t277 t280).bind fun t286 => (if t286 = true then ((customslaw38_awake.f kj3).bind fun t287 => (some t287)) else (some false))) else (some false)) else (some false)) = some true := H
        have A17 := Aside0.mk A170
        clear A170
        have c18 : t274 = t284 := by
          refine Classical.byContradiction fun c18 => ?_
          rw [if_neg c18] at H
          exact absurd (Option.some.inj H) (by simp)
        rw [if_pos c18] at H
        have c18b0 : (t274 == t284) = true := beq_iff_eq.mpr c18
        have c18b1 : (t274 != t284) = false := bne_eq_false_iff_eq.mpr c18
        clear c18
        have c19 : t273 = t283 := by
          refine Classical.byContradiction fun c19 => ?_
          rw [if_neg c19] at H
          exact absurd (Option.some.inj H) (by simp)
        rw [if_pos c19] at H
        have c19b0 : (t273 == t283) = true := beq_iff_eq.mpr c19
        have c19b1 : (t273 != t283) = false := bne_eq_false_iff_eq.mpr c19
        clear c19
        replace H := Option.bind_eq_some_iff.mp H
        obtain ⟨t286, A200, H⟩ := H
        replace H : (if t286 = true then ((customslaw38_awake.f kj3).bind fun t287 => (some t287)) else (some false)) = some true := H
        have A20 := Aside0.mk A200
        clear A200
        have c21 : t286 = true := by
          refine Classical.byContradiction fun c21 => ?_
          rw [if_neg c21] at H
          exact absurd (Option.some.inj H) (by simp)
        subst c21
        have H1 : ((customslaw38_awake.f kj3).bind fun t287 => (some t287)) = some true := by rw [if_pos rfl] at H; exact H
        clear H
        have H := H1
        clear H1
        replace H := Option.bind_eq_some_iff.mp H
        obtain ⟨t287, A220, H⟩ := H
        replace H : (some t287) = some true := H
        have A22 := Aside0.mk A220
        clear A220
        have HTR := Aside0.mk (Option.some.inj H)
        clear H
        have hcz23_0 : wc.cell? ⟨gb264, 0, none⟩ = some (.int .i64 a0_0) := (blk_cell BK264.out 0).trans rfl
        have hcz23_1 : wc.cell? ⟨gb264, 1, none⟩ = some (.slice A0_1 l0_1.length c0_1) := (blk_cell BK264.out 1).trans rfl
        have hcz23_2 : wc.cell? ⟨gb264, 2, none⟩ = some (.slice A0_2 l0_2.length c0_2) := (blk_cell BK264.out 2).trans rfl
        have hfz23_0 := blk_frozen BK264.out 0
        have hfz23_1 := blk_frozen BK264.out 1
        have hfz23_2 := blk_frozen BK264.out 2
        go_wp2_with (first | ((with_reducible refine gate_callee (f := 8) rfl ?_); refine goesL_ (some 36) rfl rfl Try.func8 (by kernel_rfl) rfl #[.agg #[.int .i64 a0_0, .slice A0_1 l0_1.length c0_1, .slice A0_2 l0_2.length c0_2], .int .i64 a1, .int .i64 a2] rfl (by (try simp only [List.map_toArray, List.map_cons, List.map_nil]); first | done | rfl | (simp only [List.length_drop, List.length_take]; rfl)) ?_; (with_reducible refine (channel_Flush.calls a0_0 _ _ l0_1 _ _ l0_2 a1 a2 t266 t267 t270 t273 t274 _ ?side1 ?side2 ?side3 ?side4 A16.out).mono ?_); (case side1 => exact pC (Kd.C_below HR0_1.out HB.out)); (case side2 => exact HC0_1.out); (case side3 => exact pC (Kd.C_below HR0_2.out HB.out)); (case side4 => exact HC0_2.out); rintro e w24 ⟨v268, v271, rfl, ho0, ho1, hb⟩; refine ⟨_, rfl, ?_⟩; have n0_ := Aside0.mk (Kd.R_lower ho0 (below_size (by exact pB HB.out))); have n1_ := Aside0.mk (Kd.R_lower ho1 (below_size (by exact pB HB.out))); have n2_ := Aside0.mk (blk_below (g := gb264) (o := .cells #[.int .i64 a0_0, .slice A0_1 l0_1.length c0_1, .slice A0_2 l0_2.length c0_2] 24 (0, 0)) (by exact pK BK264.out) hb); have n3_ := Aside0.mk (below_step (by exact pB HB.out) hb); clear BK264; clear HB; have HO269 := n0_; have HO272 := n1_; have BK264 := n2_; have HB := n3_; clear n0_ n1_ n2_ n3_; (try clear hb); (try clear hb2); (try clear hk); (try clear hi); (try clear ho0); (try clear ho1)) | ((with_reducible refine gate_dst (N := 7) rfl ?_); (try (refine gate_guard (by rfl) ?_; dsimp only)); refine box_event ?hg (N := 7) ?hd (cs := #[.int .i64 0, .slice none 0 0, .slice none 0 0]) (t := 24) ?hr ?_; (case hd => rfl); (case hg => rfl); (case hr => first | (go_simp; done) | (go_simp; rfl)); intro gb275 hg w25 hbox hb; have n0_ := Aside0.mk (Kd.R_below (by exact pR HO269.out) hb); have n1_ := Aside0.mk (Kd.R_below (by exact pR HO272.out) hb); have n2_ := Aside0.mk (blk_below (g := gb264) (o := .cells #[.int .i64 a0_0, .slice A0_1 l0_1.length c0_1, .slice A0_2 l0_2.length c0_2] 24 (0, 0)) (by exact pK BK264.out) hb); have n3_ := Aside0.mk (below_step (by exact pB HB.out) hb); have n4_ := Aside0.mk (hbox); have n5_ := Aside0.mk ((by rw [hg]; exact (below_size (by exact pB HB.out)) : w.heap.size ≤ gb275)); have n6_ := Aside0.mk ((by rw [hg]; exact (below_size (by exact pB HB.out)) : w.heap.size ≤ gb275)); have n7_ := Aside0.mk ((by rw [hg]; exact Nat.ne_of_lt (blk_lt (g := gb264) (o := .cells #[.int .i64 a0_0, .slice A0_1 l0_1.length c0_1, .slice A0_2 l0_2.length c0_2] 24 (0, 0)) (by exact pK BK264.out)) : gb264 ≠ gb275)); have n8_ := Aside0.mk ((by rw [hg]; exact Nat.ne_of_gt (blk_lt (g := gb264) (o := .cells #[.int .i64 a0_0, .slice A0_1 l0_1.length c0_1, .slice A0_2 l0_2.length c0_2] 24 (0, 0)) (by exact pK BK264.out)) : gb275 ≠ gb264)); clear HO269; clear HO272; clear BK264; clear HB; have HO269 := n0_; have HO272 := n1_; have BK264 := n2_; have HB := n3_; have BK275 := n4_; have GW275 := n5_; have GE275 := n6_; have NB264_275 := n7_; have NB275_264 := n8_; clear n0_ n1_ n2_ n3_ n4_ n5_ n6_ n7_ n8_; clear hb hbox hg; have hnb26 := NB275_264.out; have hnc26 := NB264_275.out; have hcz27_0 : w25.cell? ⟨gb275, 0, none⟩ = some (.int .i64 0) := (blk_cell BK275.out 0).trans rfl; have hcz27_1 : w25.cell? ⟨gb275, 1, none⟩ = some (.slice none 0 0) := (blk_cell BK275.out 1).trans rfl; have hcz27_2 : w25.cell? ⟨gb275, 2, none⟩ = some (.slice none 0 0) := (blk_cell BK275.out 2).trans rfl; have hfz27_0 := blk_frozen BK275.out 0; have hfz27_1 := blk_frozen BK275.out 1; have hfz27_2 := blk_frozen BK275.out 2; obtain ⟨Ao28, co28, eo28⟩ := Kd.R_slice HO269.out; subst eo28; obtain ⟨Ao29, co29, eo29⟩ := Kd.R_slice HO272.out; subst eo29) | ((with_reducible refine gate_store (t := 24) (p := 7) rfl ?_); refine store_event (t := 24) (p := 7) (v := ?vo_w30) (w1 := (((w25.setCell ⟨gb275, 0, none⟩ (.int .i64 t266)).setCell ⟨gb275, 1, none⟩ (.slice Ao28 t267.length co28)).setCell ⟨gb275, 2, none⟩ (.slice Ao29 t270.length co29))) ?hg ?ho ?hn ?hr ?_; (case ho => rfl); (case hg => rfl); (case hn => rfl); (case hr => first | (go_simp; done) | (go_simp; rfl)); intro w30 hw; have n0_ : Aside0 (Kd.R (Kd.int .i64) 3 w30 w.heap.size (fun k_ => some k_ ≠ (.slice Ao29 t270.length co29 : Value).ownBlock) (.slice Ao28 t267.length co28) t267) := ⟨(by rw [hw]; exact (by (with_reducible repeat (first | apply Kd.R_alloc | apply Kd.R_drewN | apply Kd.R_drew)); exact Kd.R_mono (Kd.R_far (p := ⟨gb275, 2, none⟩) (Kd.R_far (p := ⟨gb275, 1, none⟩) (Kd.R_far (p := ⟨gb275, 0, none⟩) (Kd.R_types HO269.out BK275.out (by decide)) (fun _ hk => hk.2) (.int .i64 t266)) (fun _ hk => hk.2) (.slice Ao28 t267.length co28)) (fun _ hk => hk.2) (.slice Ao29 t270.length co29)) (fun _ hk => hk.1)))⟩; have n1_ : Aside0 (Kd.R (Kd.int .i64) 3 w30 w.heap.size (fun k_ => some k_ ≠ (.slice Ao28 t267.length co28 : Value).ownBlock) (.slice Ao29 t270.length co29) t270) := ⟨(by rw [hw]; exact (by (with_reducible repeat (first | apply Kd.R_alloc | apply Kd.R_drewN | apply Kd.R_drew)); exact Kd.R_mono (Kd.R_far (p := ⟨gb275, 2, none⟩) (Kd.R_far (p := ⟨gb275, 1, none⟩) (Kd.R_far (p := ⟨gb275, 0, none⟩) (Kd.R_types HO272.out BK275.out (by decide)) (fun _ hk => hk.2) (.int .i64 t266)) (fun _ hk => hk.2) (.slice Ao28 t267.length co28)) (fun _ hk => hk.2) (.slice Ao29 t270.length co29)) (fun _ hk => hk.1)))⟩; have n2_ : Aside0 (w30.heap[gb264]? = some (.cells #[.int .i64 a0_0, .slice A0_1 l0_1.length c0_1, .slice A0_2 l0_2.length c0_2] 24 (0, 0))) := ⟨(by rw [hw]; exact (by (with_reducible repeat (first | refine blk_drewN ?_ _ | refine blk_drew ?_ | refine blk_alloc ?_ _)); refine blk_far ?_ NB264_275.out _; (with_reducible repeat (first | refine blk_drewN ?_ _ | refine blk_drew ?_ | refine blk_alloc ?_ _)); refine blk_far ?_ NB264_275.out _; (with_reducible repeat (first | refine blk_drewN ?_ _ | refine blk_drew ?_ | refine blk_alloc ?_ _)); refine blk_far ?_ NB264_275.out _; (with_reducible repeat (first | refine blk_drewN ?_ _ | refine blk_drew ?_ | refine blk_alloc ?_ _)); exact BK264.out))⟩; have n3_ : Aside0 (w30.heap[gb275]? = some (.cells #[.int .i64 t266, .slice Ao28 t267.length co28, .slice Ao29 t270.length co29] 24 (0, 0))) := ⟨(by rw [hw]; exact (by (with_reducible repeat (first | refine blk_drewN ?_ _ | refine blk_drew ?_ | refine blk_alloc ?_ _)); refine blk_put (cs := #[.int .i64 t266, .slice Ao28 t267.length co28, .slice none 0 0]) ?_ 2 _ rfl; (with_reducible repeat (first | refine blk_drewN ?_ _ | refine blk_drew ?_ | refine blk_alloc ?_ _)); refine blk_put (cs := #[.int .i64 t266, .slice none 0 0, .slice none 0 0]) ?_ 1 _ rfl; (with_reducible repeat (first | refine blk_drewN ?_ _ | refine blk_drew ?_ | refine blk_alloc ?_ _)); refine blk_put (cs := #[.int .i64 0, .slice none 0 0, .slice none 0 0]) ?_ 0 _ rfl; (with_reducible repeat (first | refine blk_drewN ?_ _ | refine blk_drew ?_ | refine blk_alloc ?_ _)); exact BK275.out))⟩; have n4_ : Aside0 (Below w.heap.size w w30) := ⟨(by rw [hw]; exact (by repeat (first | (with_reducible first | exact HB.out | apply below_alloc | apply pw_below_drewN | apply below_drew1 | refine below_set ?_ GE264.out | refine below_set ?_ GE275.out) | exact HB.out)))⟩; clear hw; clear HO269; clear HO272; clear BK264; clear BK275; clear HB; have HO269 := n0_; have HO272 := n1_; have BK264 := n2_; have BK275 := n3_; have HB := n4_; clear n0_ n1_ n2_ n3_ n4_; have hcz31_0 : w30.cell? ⟨gb264, 0, none⟩ = some (.int .i64 a0_0) := (blk_cell BK264.out 0).trans rfl; have hcz31_1 : w30.cell? ⟨gb264, 1, none⟩ = some (.slice A0_1 l0_1.length c0_1) := (blk_cell BK264.out 1).trans rfl; have hcz31_2 : w30.cell? ⟨gb264, 2, none⟩ = some (.slice A0_2 l0_2.length c0_2) := (blk_cell BK264.out 2).trans rfl; have hfz31_0 := blk_frozen BK264.out 0; have hfz31_1 := blk_frozen BK264.out 1; have hfz31_2 := blk_frozen BK264.out 2) | ((with_reducible refine gate_callee (f := 9) rfl ?_); refine goesL_ (some 44) rfl rfl Try.func9 (by kernel_rfl) rfl #[.agg #[.int .i64 a0_0, .slice A0_1 l0_1.length c0_1, .slice A0_2 l0_2.length c0_2], .int .i64 a1, .int .i64 a2] rfl (by (try simp only [List.map_toArray, List.map_cons, List.map_nil]); first | done | rfl | (simp only [List.length_drop, List.length_take]; rfl)) ?_; (with_reducible refine (customsref33_Flush.calls kj3 a0_0 _ _ l0_1 (fun k_ => k_ < w.heap.size) _ _ l0_2 a1 a2 t276 t277 t280 t283 t284 _ ?side1 ?side2 ?side3 A17.out).mono ?_); (case side1 => exact pC (Kd.C_below HR0_1.out HB.out)); (case side2 => exact HC0_1.out); (case side3 => exact Kd.V_mk HC0_2.out (Kd.F_below (Kd.C_F (Kd.heap_int .i64) HR0_2.out) (by exact pB HB.out))); rintro e w32 ⟨v278, v281, rfl, ho0, ho1, hb⟩; refine ⟨_, rfl, ?_⟩; have n0_ := Aside0.mk (Kd.R_below (by exact pR HO269.out) hb); have n1_ := Aside0.mk (Kd.R_below (by exact pR HO272.out) hb); have n2_ := Aside0.mk (Kd.V_lower (Kd.V_mono (ok' := fun k_ => some k_ ≠ (.slice Ao28 t267.length co28 : Value).ownBlock ∧ some k_ ≠ (.slice Ao29 t270.length co29 : Value).ownBlock ∧ k_ ≠ gb275) ho0 (fun k_ hk_ => ⟨Or.elim hk_ (fun hs_ => fun e_ => Nat.not_le.2 hs_ (Kd.R_base HO269.out k_ e_.symm)) (fun hn_ => (Kd.fresh' (Kd.R_lt (by exact pR HO269.out)) k_ hn_)), Or.elim hk_ (fun hs_ => fun e_ => Nat.not_le.2 hs_ (Kd.R_base HO272.out k_ e_.symm)) (fun hn_ => (Kd.fresh' (Kd.R_lt (by exact pR HO272.out)) k_ hn_)), Or.elim hk_ (fun hs_ => fun e_ => Nat.not_le.2 hs_ (by rw [e_]; exact GW275.out)) (fun hn_ => (Kd.freshB (g := gb275) (o := .cells #[.int .i64 t266, .slice Ao28 t267.length co28, .slice Ao29 t270.length co29] 24 (0, 0)) (by exact pK BK275.out) k_ hn_))⟩)) (below_size (by exact pB HB.out))); have n3_ := Aside0.mk (Kd.V_lower (Kd.V_mono (ok' := fun k_ => some k_ ≠ (.slice Ao28 t267.length co28 : Value).ownBlock ∧ some k_ ≠ (.slice Ao29 t270.length co29 : Value).ownBlock ∧ k_ ≠ gb275) ho1 (fun k_ hk_ => ⟨Or.elim hk_ (fun hs_ => fun e_ => Nat.not_le.2 hs_ (Kd.R_base HO269.out k_ e_.symm)) (fun hn_ => (Kd.fresh' (Kd.R_lt (by exact pR HO269.out)) k_ hn_)), Or.elim hk_ (fun hs_ => fun e_ => Nat.not_le.2 hs_ (Kd.R_base HO272.out k_ e_.symm)) (fun hn_ => (Kd.fresh' (Kd.R_lt (by exact pR HO272.out)) k_ hn_)), Or.elim hk_ (fun hs_ => fun e_ => Nat.not_le.2 hs_ (by rw [e_]; exact GW275.out)) (fun hn_ => (Kd.freshB (g := gb275) (o := .cells #[.int .i64 t266, .slice Ao28 t267.length co28, .slice Ao29 t270.length co29] 24 (0, 0)) (by exact pK BK275.out) k_ hn_))⟩)) (below_size (by exact pB HB.out))); have n4_ := Aside0.mk (blk_below (g := gb275) (o := .cells #[.int .i64 t266, .slice Ao28 t267.length co28, .slice Ao29 t270.length co29] 24 (0, 0)) (by exact pK BK275.out) hb); have n5_ := Aside0.mk (below_step (by exact pB HB.out) hb); clear HO269; clear HO272; clear BK275; clear HB; have HO269 := n0_; have HO272 := n1_; have HO279 := n2_; have HO282 := n3_; have BK275 := n4_; have HB := n5_; clear n0_ n1_ n2_ n3_ n4_ n5_; (try clear hb); (try clear hb2); (try clear hk); (try clear hi); (try clear ho0); (try clear ho1)) | ((with_reducible refine gate_dst (N := 10) rfl ?_); (try (refine gate_guard (by rfl) ?_; dsimp only)); refine box_event ?hg (N := 10) ?hd (cs := #[.int .i64 0, .slice none 0 0, .slice none 0 0]) (t := 24) ?hr ?_; (case hd => rfl); (case hg => rfl); (case hr => first | (go_simp; done) | (go_simp; rfl)); intro gb285 hg w33 hbox hb; have n0_ := Aside0.mk (Kd.R_below (by exact pR HO269.out) hb); have n1_ := Aside0.mk (Kd.R_below (by exact pR HO272.out) hb); have n2_ := Aside0.mk (Kd.V_below (Kd.V_elderB (by exact pV HO279.out) gb285 (Nat.le_of_eq hg.symm)) hb); have n3_ := Aside0.mk (Kd.V_below (Kd.V_elderB (by exact pV HO282.out) gb285 (Nat.le_of_eq hg.symm)) hb); have n4_ := Aside0.mk (blk_below (g := gb275) (o := .cells #[.int .i64 t266, .slice Ao28 t267.length co28, .slice Ao29 t270.length co29] 24 (0, 0)) (by exact pK BK275.out) hb); have n5_ := Aside0.mk (below_step (by exact pB HB.out) hb); have n6_ := Aside0.mk (hbox); have n7_ := Aside0.mk ((by rw [hg]; exact (below_size (by exact pB HB.out)) : w.heap.size ≤ gb285)); have n8_ := Aside0.mk ((by rw [hg]; exact (below_size (by exact pB HB.out)) : w.heap.size ≤ gb285)); have n9_ := Aside0.mk ((by rw [hg]; exact Nat.ne_of_lt (blk_lt (g := gb275) (o := .cells #[.int .i64 t266, .slice Ao28 t267.length co28, .slice Ao29 t270.length co29] 24 (0, 0)) (by exact pK BK275.out)) : gb275 ≠ gb285)); have n10_ := Aside0.mk ((by rw [hg]; exact Nat.ne_of_gt (blk_lt (g := gb275) (o := .cells #[.int .i64 t266, .slice Ao28 t267.length co28, .slice Ao29 t270.length co29] 24 (0, 0)) (by exact pK BK275.out)) : gb285 ≠ gb275)); clear HO269; clear HO272; clear HO279; clear HO282; clear BK275; clear HB; have HO269 := n0_; have HO272 := n1_; have HO279 := n2_; have HO282 := n3_; have BK275 := n4_; have HB := n5_; have BK285 := n6_; have GW285 := n7_; have GE285 := n8_; have NB275_285 := n9_; have NB285_275 := n10_; clear n0_ n1_ n2_ n3_ n4_ n5_ n6_ n7_ n8_ n9_ n10_; clear hb hbox hg; have hnb34 := NB285_275.out; have hnc34 := NB275_285.out; have hcz35_0 : w33.cell? ⟨gb285, 0, none⟩ = some (.int .i64 0) := (blk_cell BK285.out 0).trans rfl; have hcz35_1 : w33.cell? ⟨gb285, 1, none⟩ = some (.slice none 0 0) := (blk_cell BK285.out 1).trans rfl; have hcz35_2 : w33.cell? ⟨gb285, 2, none⟩ = some (.slice none 0 0) := (blk_cell BK285.out 2).trans rfl; have hfz35_0 := blk_frozen BK285.out 0; have hfz35_1 := blk_frozen BK285.out 1; have hfz35_2 := blk_frozen BK285.out 2; obtain ⟨Ao36, co36, eo36⟩ := Kd.V_slice HO279.out; subst eo36; obtain ⟨Ao37, co37, eo37⟩ := Kd.V_slice HO282.out; subst eo37; have hcz38_0 : w33.cell? ⟨gb275, 0, none⟩ = some (.int .i64 t266) := (blk_cell BK275.out 0).trans rfl; have hcz38_1 : w33.cell? ⟨gb275, 1, none⟩ = some (.slice Ao28 t267.length co28) := (blk_cell BK275.out 1).trans rfl; have hcz38_2 : w33.cell? ⟨gb275, 2, none⟩ = some (.slice Ao29 t270.length co29) := (blk_cell BK275.out 2).trans rfl; have hfz38_0 := blk_frozen BK275.out 0; have hfz38_1 := blk_frozen BK275.out 1; have hfz38_2 := blk_frozen BK275.out 2) | (go_at_call 10; (with_reducible refine (customsref33_SameLine.calls kj3 t266 _ _ t267 _ _ t270 t276 _ _ t277 _ _ t280 true _ ?side1 ?side2 ?side3 ?side4 ?side5 ?side6 ?side7 ?side8 A20.out).mono ?_); (case side1 => refine (Kd.R_reads' (e := 3) (base := w.heap.size) (ok := fun k_ => some k_ ≠ (.slice Ao29 t270.length co29 : Value).ownBlock) (n := t267.length) (c := co28) ?_).2.2; exact (by (with_reducible repeat (first | apply Kd.R_alloc | apply Kd.R_drewN | apply Kd.R_drew)); exact (Kd.R_mono (Kd.R_far (p := ⟨gb285, 2, none⟩) (Kd.R_far (p := ⟨gb285, 1, none⟩) (Kd.R_far (p := ⟨gb285, 0, none⟩) (Kd.R_types HO269.out BK285.out (by decide)) (fun _ hk => hk.2) (.int .i64 t276)) (fun _ hk => hk.2) (.slice Ao36 t277.length co36)) (fun _ hk => hk.2) (.slice Ao37 t280.length co37)) (fun _ h_ => h_.1)))); (case side2 => exact (Kd.R_reads' HO269.out).2.1); (case side3 => refine (Kd.R_reads' (e := 3) (base := w.heap.size) (ok := fun k_ => some k_ ≠ (.slice Ao28 t267.length co28 : Value).ownBlock) (n := t270.length) (c := co29) ?_).2.2; exact (by (with_reducible repeat (first | apply Kd.R_alloc | apply Kd.R_drewN | apply Kd.R_drew)); exact (Kd.R_mono (Kd.R_far (p := ⟨gb285, 2, none⟩) (Kd.R_far (p := ⟨gb285, 1, none⟩) (Kd.R_far (p := ⟨gb285, 0, none⟩) (Kd.R_types HO272.out BK285.out (by decide)) (fun _ hk => hk.2) (.int .i64 t276)) (fun _ hk => hk.2) (.slice Ao36 t277.length co36)) (fun _ hk => hk.2) (.slice Ao37 t280.length co37)) (fun _ h_ => h_.1)))); (case side4 => exact (Kd.R_reads' HO272.out).2.1); (case side5 => refine (Kd.V_reads' (e := 3) (base := w.heap.size) (ok := fun k_ => ((some k_ ≠ (.slice Ao28 t267.length co28 : Value).ownBlock ∧ (some k_ ≠ (.slice Ao29 t270.length co29 : Value).ownBlock ∧ k_ ≠ gb275)) ∧ k_ ≠ gb285)) (n := t277.length) (c := co36) ?_).2.2; exact (by (with_reducible repeat (first | apply Kd.V_alloc | apply Kd.V_drewN | apply Kd.V_drew)); exact (Kd.V_mono (Kd.V_far (p := ⟨gb285, 2, none⟩) (Kd.V_far (p := ⟨gb285, 1, none⟩) (Kd.V_far (p := ⟨gb285, 0, none⟩) (Kd.V_mono HO279.out (fun k_ hk => (⟨hk, hk.2⟩ : _ ∧ k_ ≠ gb285))) (fun _ hk => hk.2) (.int .i64 t276)) (fun _ hk => hk.2) (.slice Ao36 t277.length co36)) (fun _ hk => hk.2) (.slice Ao37 t280.length co37)) (fun _ h_ => h_.1)))); (case side6 => exact (Kd.V_reads' HO279.out).2.1); (case side7 => refine (Kd.V_reads' (e := 3) (base := w.heap.size) (ok := fun k_ => ((some k_ ≠ (.slice Ao28 t267.length co28 : Value).ownBlock ∧ (some k_ ≠ (.slice Ao29 t270.length co29 : Value).ownBlock ∧ k_ ≠ gb275)) ∧ k_ ≠ gb285)) (n := t280.length) (c := co37) ?_).2.2; exact (by (with_reducible repeat (first | apply Kd.V_alloc | apply Kd.V_drewN | apply Kd.V_drew)); exact (Kd.V_mono (Kd.V_far (p := ⟨gb285, 2, none⟩) (Kd.V_far (p := ⟨gb285, 1, none⟩) (Kd.V_far (p := ⟨gb285, 0, none⟩) (Kd.V_mono HO282.out (fun k_ hk => (⟨hk, hk.2⟩ : _ ∧ k_ ≠ gb285))) (fun _ hk => hk.2) (.int .i64 t276)) (fun _ hk => hk.2) (.slice Ao36 t277.length co36)) (fun _ hk => hk.2) (.slice Ao37 t280.length co37)) (fun _ h_ => h_.1)))); (case side8 => exact (Kd.V_reads' HO282.out).2.1); rintro e w39 ⟨rfl, hb⟩; have n0_ := Aside0.mk (Kd.R_below (by (with_reducible repeat (first | apply Kd.R_alloc | apply Kd.R_drewN | apply Kd.R_drew)); exact (Kd.R_mono (Kd.R_far (p := ⟨gb285, 2, none⟩) (Kd.R_far (p := ⟨gb285, 1, none⟩) (Kd.R_far (p := ⟨gb285, 0, none⟩) (Kd.R_types HO269.out BK285.out (by decide)) (fun _ hk => hk.2) (.int .i64 t276)) (fun _ hk => hk.2) (.slice Ao36 t277.length co36)) (fun _ hk => hk.2) (.slice Ao37 t280.length co37)) (fun _ h_ => h_.1))) hb); have n1_ := Aside0.mk (Kd.R_below (by (with_reducible repeat (first | apply Kd.R_alloc | apply Kd.R_drewN | apply Kd.R_drew)); exact (Kd.R_mono (Kd.R_far (p := ⟨gb285, 2, none⟩) (Kd.R_far (p := ⟨gb285, 1, none⟩) (Kd.R_far (p := ⟨gb285, 0, none⟩) (Kd.R_types HO272.out BK285.out (by decide)) (fun _ hk => hk.2) (.int .i64 t276)) (fun _ hk => hk.2) (.slice Ao36 t277.length co36)) (fun _ hk => hk.2) (.slice Ao37 t280.length co37)) (fun _ h_ => h_.1))) hb); have n2_ := Aside0.mk (Kd.V_below (by (with_reducible repeat (first | apply Kd.V_alloc | apply Kd.V_drewN | apply Kd.V_drew)); exact (Kd.V_mono (Kd.V_far (p := ⟨gb285, 2, none⟩) (Kd.V_far (p := ⟨gb285, 1, none⟩) (Kd.V_far (p := ⟨gb285, 0, none⟩) (Kd.V_mono HO279.out (fun k_ hk => (⟨hk, hk.2⟩ : _ ∧ k_ ≠ gb285))) (fun _ hk => hk.2) (.int .i64 t276)) (fun _ hk => hk.2) (.slice Ao36 t277.length co36)) (fun _ hk => hk.2) (.slice Ao37 t280.length co37)) (fun _ h_ => h_.1))) hb); have n3_ := Aside0.mk (Kd.V_below (by (with_reducible repeat (first | apply Kd.V_alloc | apply Kd.V_drewN | apply Kd.V_drew)); exact (Kd.V_mono (Kd.V_far (p := ⟨gb285, 2, none⟩) (Kd.V_far (p := ⟨gb285, 1, none⟩) (Kd.V_far (p := ⟨gb285, 0, none⟩) (Kd.V_mono HO282.out (fun k_ hk => (⟨hk, hk.2⟩ : _ ∧ k_ ≠ gb285))) (fun _ hk => hk.2) (.int .i64 t276)) (fun _ hk => hk.2) (.slice Ao36 t277.length co36)) (fun _ hk => hk.2) (.slice Ao37 t280.length co37)) (fun _ h_ => h_.1))) hb); have n4_ := Aside0.mk (blk_below (g := gb275) (o := .cells #[.int .i64 t266, .slice Ao28 t267.length co28, .slice Ao29 t270.length co29] 24 (0, 0)) (by (with_reducible repeat (first | refine blk_drewN ?_ _ | refine blk_drew ?_ | refine blk_alloc ?_ _)); refine blk_far ?_ NB275_285.out _; (with_reducible repeat (first | refine blk_drewN ?_ _ | refine blk_drew ?_ | refine blk_alloc ?_ _)); refine blk_far ?_ NB275_285.out _; (with_reducible repeat (first | refine blk_drewN ?_ _ | refine blk_drew ?_ | refine blk_alloc ?_ _)); refine blk_far ?_ NB275_285.out _; (with_reducible repeat (first | refine blk_drewN ?_ _ | refine blk_drew ?_ | refine blk_alloc ?_ _)); exact BK275.out) hb); have n5_ := Aside0.mk (blk_below (g := gb285) (o := .cells #[.int .i64 t276, .slice Ao36 t277.length co36, .slice Ao37 t280.length co37] 24 (0, 0)) (by (with_reducible repeat (first | refine blk_drewN ?_ _ | refine blk_drew ?_ | refine blk_alloc ?_ _)); refine blk_put (cs := #[.int .i64 t276, .slice Ao36 t277.length co36, .slice none 0 0]) ?_ 2 _ rfl; (with_reducible repeat (first | refine blk_drewN ?_ _ | refine blk_drew ?_ | refine blk_alloc ?_ _)); refine blk_put (cs := #[.int .i64 t276, .slice none 0 0, .slice none 0 0]) ?_ 1 _ rfl; (with_reducible repeat (first | refine blk_drewN ?_ _ | refine blk_drew ?_ | refine blk_alloc ?_ _)); refine blk_put (cs := #[.int .i64 0, .slice none 0 0, .slice none 0 0]) ?_ 0 _ rfl; (with_reducible repeat (first | refine blk_drewN ?_ _ | refine blk_drew ?_ | refine blk_alloc ?_ _)); exact BK285.out) hb); have n6_ := Aside0.mk (below_step (by repeat (first | (with_reducible first | exact HB.out | apply below_alloc | apply pw_below_drewN | apply below_drew1 | refine below_set ?_ GE275.out | refine below_set ?_ GE285.out) | exact HB.out)) hb); clear HO269; clear HO272; clear HO279; clear HO282; clear BK275; clear BK285; clear HB; have HO269 := n0_; have HO272 := n1_; have HO279 := n2_; have HO282 := n3_; have BK275 := n4_; have BK285 := n5_; have HB := n6_; clear n0_ n1_ n2_ n3_ n4_ n5_ n6_; (try clear hb); (try clear hb2); (try clear hk); (try clear hi)) | (go_at_call 7; (with_reducible refine (customslaw38_awake.calls kj3  t287 _ A22.out).mono ?_); rintro e w40 ⟨rfl, hb⟩; have n0_ := Aside0.mk (below_step (by exact pB HB.out) hb); clear HB; have HB := n0_; clear n0_; (try clear hb); (try clear hb2); (try clear hk); (try clear hi)))
        go_ret
        exact ⟨by first | rfl | (rw [HTR.out]; first | done | rfl) | (simp [errW_none, errW_some] <;> rfl) | (simp [*, errW_none, errW_some] <;> rfl), by exact pB HB.out⟩

end Go.Proofs.Ytlhmgigjbeefbaa.PChannelFlushRaw
