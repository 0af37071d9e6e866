-- Printed by a patched copy of the kit's printer (wip/prt); nothing here is trusted, Lean checks it.
import Derived.Test.YthnlepmfjhhgfaaPJournalSnapshotx0
import Derived.Test.YthnlepmfjhhgfaaPJournalSnapshotx1
import Derived.Test.YthnlepmfjhhgfaaPJournalSnapshotx4
namespace Go.Proofs.Ythnlepmfjhhgfaa.PJournalSnapshot
open Go.RowKit Go.Proofs.YthnlepmfjhhgfaaW.PrintWords Go.Proofs.YthnlepmfjhhgfaaW.PrintLast Go.Proofs.YthnlepmfjhhgfaaW.PrintMore
attribute [local go_sem] max2_int min2_int max_two min_two max_three min_three max_four min_four   -- for this text's walks alone
set_option linter.unusedVariables false
set_option linter.unusedSimpArgs false

/-! ### customslaw34_JournalSnapshot: function 11 -/
mutual
def customslaw34_JournalSnapshot.j0 : Nat → List (List Int) → List (List Int) → List Int → List Int → Int → Bool → Option (Bool)
  | 0, _, _, _, _, _, _ => none
  | k + 1, x0, x1, x2, x3, x4, x37 => if x37 = true then ((customslaw34_awake.f k).bind fun t299 => (some t299)) else (customslaw34_JournalSnapshot.l0 k x0 x1 x2 x3 x4 0 ([] : List Int) ([] : List Int))
def customslaw34_JournalSnapshot.l0 : Nat → List (List Int) → List (List Int) → List Int → List Int → Int → Int → List Int → List Int → Option (Bool)
  | 0, _, _, _, _, _, _, _, _ => none
  | k + 1, x0, x1, x2, x3, x4, x12, x301000, x301001 => if x12 < (x0.length : Int) then (if 0 ≤ x12 then ((journal_Append.f k x301000 x301001 (rd_L1 x0 x12)).bind fun bt302 => (customslaw34_JournalSnapshot.l0 k x0 x1 x2 x3 x4 (wrap64 (x12 + 1)) bt302.1 bt302.2.1)) else (none)) else ((journal_Put.f k x301000 x301001 2 x2).bind fun bt309 => ((disk_Sync.f bt309.1 bt309.2.1).bind fun bt316 => (customslaw34_JournalSnapshot.l1 k x1 x2 x3 x4 bt309.2.2 0 bt316.1 bt316.2)))
def customslaw34_JournalSnapshot.l1 : Nat → List (List Int) → List Int → List Int → Int → Int → Int → List Int → List Int → Option (Bool)
  | 0, _, _, _, _, _, _, _, _ => none
  | k + 1, x1, x2, x3, x4, x13, x14, x301000, x301001 => if x14 < (x1.length : Int) then (if 0 ≤ x14 then ((journal_Append.f k x301000 x301001 (rd_L1 x1 x14)).bind fun bt323 => (customslaw34_JournalSnapshot.l1 k x1 x2 x3 x4 x13 (wrap64 (x14 + 1)) bt323.1 bt323.2.1)) else (none)) else ((journal_Put.f k x301000 x301001 2 x3).bind fun bt330 => ((customsmade_Within.f x4 (wrap64 ((x3.length : Int) + 9))).bind fun t338 => ((disk_Crash.f bt330.1 bt330.2.1 t338).bind fun bt339 => ((journal_Open.f k bt339.1 bt339.2).bind fun bt346 => ((disk_Sync.f bt330.1 bt330.2.1).bind fun bt360 => ((journal_Open.f k bt360.1 bt360.2).bind fun bt366 => (if x13 = 0 then (if bt330.2.2 = 0 then (if bt346.2.2.2.1 = true then ((customsref33_SameBytes.f bt346.2.2.1 x2).bind fun t380 => (if t380 = true then ((customsref33_SameRecords.f k bt346.2.2.2.2 x1).bind fun t381 => (if t381 = true then (if bt366.2.2.2.1 = true then ((customsref33_SameBytes.f bt366.2.2.1 x3).bind fun t382 => (if t382 = true then (if (bt366.2.2.2.2.length : Int) = 0 then ((customslaw34_awake.f k).bind fun t383 => (some t383)) else (some false)) else (some false))) else (some false)) else (some false))) else (some false))) else (some false)) else (some false)) else (some false))))))))
end
def customslaw34_JournalSnapshot.f (k : Nat) (l0 : List (List Int)) (l1 : List (List Int)) (l2 : List Int) (l3 : List Int) (a4 : Int) : Option (Bool) := (customslaw34_cut.f k l0).bind fun t293 => ((customslaw34_cut.f k l1).bind fun t296 => (if (l2.length : Int) > 200 then (customslaw34_JournalSnapshot.j0 k t293 t296 l2 l3 a4 true) else (customslaw34_JournalSnapshot.j0 k t293 t296 l2 l3 a4 (decide ((l3.length : Int) > 200)))))
theorem customslaw34_JournalSnapshot.mono_l : ∀ k, (∀ y0 y1 y2 y3 y4 y5, LeO (customslaw34_JournalSnapshot.j0 k y0 y1 y2 y3 y4 y5) (customslaw34_JournalSnapshot.j0 (k + 1) y0 y1 y2 y3 y4 y5)) ∧ (∀ y0 y1 y2 y3 y4 y5 y6 y7, LeO (customslaw34_JournalSnapshot.l0 k y0 y1 y2 y3 y4 y5 y6 y7) (customslaw34_JournalSnapshot.l0 (k + 1) y0 y1 y2 y3 y4 y5 y6 y7)) ∧ (∀ y0 y1 y2 y3 y4 y5 y6 y7, LeO (customslaw34_JournalSnapshot.l1 k y0 y1 y2 y3 y4 y5 y6 y7) (customslaw34_JournalSnapshot.l1 (k + 1) y0 y1 y2 y3 y4 y5 y6 y7))
  | 0 => ⟨fun _ _ _ _ _ _ r h => by simp [customslaw34_JournalSnapshot.j0] at h, fun _ _ _ _ _ _ _ _ r h => by simp [customslaw34_JournalSnapshot.l0] at h, fun _ _ _ _ _ _ _ _ r h => by simp [customslaw34_JournalSnapshot.l1] at h⟩
  | k + 1 => by
    obtain ⟨ih0, ih1, ih2⟩ := customslaw34_JournalSnapshot.mono_l k
    refine ⟨?_, ?_, ?_⟩
    · intro y0 y1 y2 y3 y4 y5
      unfold customslaw34_JournalSnapshot.j0
      repeat' first
      | (with_reducible exact ih0 _ _ _ _ _ _)
      | (with_reducible exact ih1 _ _ _ _ _ _ _ _)
      | (with_reducible exact ih2 _ _ _ _ _ _ _ _)
      | (with_reducible exact customslaw34_awake.mono _)
      | (with_reducible exact customslaw34_cut.mono _ _)
      | (with_reducible exact customsref33_SameRecords.mono _ _ _)
      | (with_reducible exact journal_Append.mono _ _ _ _)
      | (with_reducible exact journal_Open.mono _ _ _)
      | (with_reducible exact journal_Put.mono _ _ _ _ _)
      | (with_reducible exact LeO.refl _)
      | (with_reducible exact LeO.none _)
      | (with_reducible refine LeO.ite ?_ ?_)
      | (with_reducible refine LeO.bind ?_ (fun _ => ?_))
      | exact ih0 _ _ _ _ _ _
      | exact ih1 _ _ _ _ _ _ _ _
      | exact ih2 _ _ _ _ _ _ _ _
      | exact customslaw34_awake.mono _
      | exact customslaw34_cut.mono _ _
      | exact customsref33_SameRecords.mono _ _ _
      | exact journal_Append.mono _ _ _ _
      | exact journal_Open.mono _ _ _
      | exact journal_Put.mono _ _ _ _ _
      | exact LeO.none _
      | refine LeO.ite ?_ ?_
      | refine LeO.bind ?_ (fun _ => ?_)
    · intro y0 y1 y2 y3 y4 y5 y6 y7
      unfold customslaw34_JournalSnapshot.l0
      repeat' first
      | (with_reducible exact ih0 _ _ _ _ _ _)
      | (with_reducible exact ih1 _ _ _ _ _ _ _ _)
      | (with_reducible exact ih2 _ _ _ _ _ _ _ _)
      | (with_reducible exact customslaw34_awake.mono _)
      | (with_reducible exact customslaw34_cut.mono _ _)
      | (with_reducible exact customsref33_SameRecords.mono _ _ _)
      | (with_reducible exact journal_Append.mono _ _ _ _)
      | (with_reducible exact journal_Open.mono _ _ _)
      | (with_reducible exact journal_Put.mono _ _ _ _ _)
      | (with_reducible exact LeO.refl _)
      | (with_reducible exact LeO.none _)
      | (with_reducible refine LeO.ite ?_ ?_)
      | (with_reducible refine LeO.bind ?_ (fun _ => ?_))
      | exact ih0 _ _ _ _ _ _
      | exact ih1 _ _ _ _ _ _ _ _
      | exact ih2 _ _ _ _ _ _ _ _
      | exact customslaw34_awake.mono _
      | exact customslaw34_cut.mono _ _
      | exact customsref33_SameRecords.mono _ _ _
      | exact journal_Append.mono _ _ _ _
      | exact journal_Open.mono _ _ _
      | exact journal_Put.mono _ _ _ _ _
      | exact LeO.none _
      | refine LeO.ite ?_ ?_
      | refine LeO.bind ?_ (fun _ => ?_)
    · intro y0 y1 y2 y3 y4 y5 y6 y7
      unfold customslaw34_JournalSnapshot.l1
      repeat' first
      | (with_reducible exact ih0 _ _ _ _ _ _)
      | (with_reducible exact ih1 _ _ _ _ _ _ _ _)
      | (with_reducible exact ih2 _ _ _ _ _ _ _ _)
      | (with_reducible exact customslaw34_awake.mono _)
      | (with_reducible exact customslaw34_cut.mono _ _)
      | (with_reducible exact customsref33_SameRecords.mono _ _ _)
      | (with_reducible exact journal_Append.mono _ _ _ _)
      | (with_reducible exact journal_Open.mono _ _ _)
      | (with_reducible exact journal_Put.mono _ _ _ _ _)
      | (with_reducible exact LeO.refl _)
      | (with_reducible exact LeO.none _)
      | (with_reducible refine LeO.ite ?_ ?_)
      | (with_reducible refine LeO.bind ?_ (fun _ => ?_))
      | exact ih0 _ _ _ _ _ _
      | exact ih1 _ _ _ _ _ _ _ _
      | exact ih2 _ _ _ _ _ _ _ _
      | exact customslaw34_awake.mono _
      | exact customslaw34_cut.mono _ _
      | exact customsref33_SameRecords.mono _ _ _
      | exact journal_Append.mono _ _ _ _
      | exact journal_Open.mono _ _ _
      | exact journal_Put.mono _ _ _ _ _
      | exact LeO.none _
      | refine LeO.ite ?_ ?_
      | refine LeO.bind ?_ (fun _ => ?_)
theorem customslaw34_JournalSnapshot.mono : ∀ a0 a1 a2 a3 a4 k, LeO (customslaw34_JournalSnapshot.f k a0 a1 a2 a3 a4) (customslaw34_JournalSnapshot.f (k + 1) a0 a1 a2 a3 a4) := by
  intro a0 a1 a2 a3 a4 k
  obtain ⟨ih0, ih1, ih2⟩ := customslaw34_JournalSnapshot.mono_l k
  unfold customslaw34_JournalSnapshot.f
  repeat' first
      | (with_reducible exact ih0 _ _ _ _ _ _)
      | (with_reducible exact ih1 _ _ _ _ _ _ _ _)
      | (with_reducible exact ih2 _ _ _ _ _ _ _ _)
      | (with_reducible exact customslaw34_awake.mono _)
      | (with_reducible exact customslaw34_cut.mono _ _)
      | (with_reducible exact customsref33_SameRecords.mono _ _ _)
      | (with_reducible exact journal_Append.mono _ _ _ _)
      | (with_reducible exact journal_Open.mono _ _ _)
      | (with_reducible exact journal_Put.mono _ _ _ _ _)
      | (with_reducible exact LeO.refl _)
      | (with_reducible exact LeO.none _)
      | (with_reducible refine LeO.ite ?_ ?_)
      | (with_reducible refine LeO.bind ?_ (fun _ => ?_))
      | exact ih0 _ _ _ _ _ _
      | exact ih1 _ _ _ _ _ _ _ _
      | exact ih2 _ _ _ _ _ _ _ _
      | exact customslaw34_awake.mono _
      | exact customslaw34_cut.mono _ _
      | exact customsref33_SameRecords.mono _ _ _
      | exact journal_Append.mono _ _ _ _
      | exact journal_Open.mono _ _ _
      | exact journal_Put.mono _ _ _ _ _
      | exact LeO.none _
      | refine LeO.ite ?_ ?_
      | refine LeO.bind ?_ (fun _ => ?_)
def customslaw34_JournalSnapshot.T8 : Bool × List (List Nat × List Nat) := (true, [([], []), ([], []), ([], []), ([1, 2], [1, 2]), ([3], [3]), ([0, 4], [0, 4]), ([5], [5]), ([6], [6]), ([6], [6]), ([7, 5, 0, 1, 2, 3, 4, 5, 6, 7], [7])])
def customslaw34_JournalSnapshot.B8 : List Nat := [0, 0, 0, 6, 14, 31, 63, 127, 127, 255]
theorem customslaw34_JournalSnapshot.tab8 : rtab .any (opsOf Try.f11 8) = customslaw34_JournalSnapshot.T8 := by kernel_rfl
theorem customslaw34_JournalSnapshot.bits8 : waitsOk customslaw34_JournalSnapshot.T8.2 customslaw34_JournalSnapshot.B8 = true := by kernel_rfl
def customslaw34_JournalSnapshot.T14 : Bool × List (List Nat × List Nat) := (true, [([], []), ([], []), ([], []), ([1, 2], [1, 2]), ([3], [3]), ([0, 4], [0, 4]), ([5], [5]), ([6], [6]), ([6], [6]), ([7, 5, 0, 1, 2, 3, 4, 5, 6, 7], [7])])
def customslaw34_JournalSnapshot.B14 : List Nat := [0, 0, 0, 6, 14, 31, 63, 127, 127, 255]
theorem customslaw34_JournalSnapshot.tab14 : rtab .any (opsOf Try.f11 14) = customslaw34_JournalSnapshot.T14 := by kernel_rfl
theorem customslaw34_JournalSnapshot.bits14 : waitsOk customslaw34_JournalSnapshot.T14.2 customslaw34_JournalSnapshot.B14 = true := by kernel_rfl
def customslaw34_JournalSnapshot.T16 : Bool × List (List Nat × List Nat) := (true, [([], []), ([], []), ([], []), ([2], [2]), ([3], [3]), ([1, 4], [1, 4]), ([0, 5, 5], [0, 5]), ([], []), ([7, 6, 6, 0, 1, 2, 3, 4, 5, 6, 7], [6, 7])])
def customslaw34_JournalSnapshot.B16 : List Nat := [0, 0, 0, 4, 12, 30, 63, 0, 255]
theorem customslaw34_JournalSnapshot.tab16 : rtab .any (opsOf Try.f11 16) = customslaw34_JournalSnapshot.T16 := by kernel_rfl
theorem customslaw34_JournalSnapshot.bits16 : waitsOk customslaw34_JournalSnapshot.T16.2 customslaw34_JournalSnapshot.B16 = true := by kernel_rfl
set_option maxHeartbeats 8000000 in
set_option maxRecDepth 100000 in
theorem customslaw34_JournalSnapshot.calls (k : Nat) (A0 : Option Addr) (c0 : Nat) (l0 : List (List Int)) (A1 : Option Addr) (c1 : Nat) (l1 : List (List Int)) (A2 : Option Addr) (c2 : Nat) (l2 : List Int) (A3 : Option Addr) (c3 : Nat) (l3 : List Int) (a4 : Int) (w : World) (hr0 : Kd.C (Kd.slice 5 (Kd.int .u8)) w A0 l0.length l0) (hc0 : l0.length ≤ c0) (hr1 : Kd.C (Kd.slice 5 (Kd.int .u8)) w A1 l1.length l1) (hc1 : l1.length ≤ c1) (hr2 : Kd.C (Kd.int .u8) w A2 l2.length l2) (hc2 : l2.length ≤ c2) (hr3 : Kd.C (Kd.int .u8) w A3 l3.length l3) (hc3 : l3.length ≤ c3) (h : customslaw34_JournalSnapshot.f k l0 l1 l2 l3 a4 = some true) :
    Calls Try.prog 11 #[.slice A0 l0.length c0, .slice A1 l1.length c1, .slice A2 l2.length c2, .slice A3 l3.length c3, .int .i64 a4] w fun e w' => e = .returned (.bool true) ∧ Below w.heap.size w w' := by
  have hu24 := Try.underlying24
  have hu43 := Try.underlying43
  have HR0 := Aside0.mk hr0
  have HC0 := Aside0.mk hc0
  clear hr0 hc0
  have HR1 := Aside0.mk hr1
  have HC1 := Aside0.mk hc1
  clear hr1 hc1
  have HR2 := Aside0.mk hr2
  have HC2 := Aside0.mk hc2
  clear hr2 hc2
  have HR3 := Aside0.mk hr3
  have HC3 := Aside0.mk hc3
  clear hr3 hc3
  have HB := Aside0.mk (Below.refl w.heap.size w)
  have H : ((customslaw34_cut.f k l0).bind fun t293 => ((customslaw34_cut.f k l1).bind fun t296 => (if (l2.length : Int) > 200 then (customslaw34_JournalSnapshot.j0 k t293 t296 l2 l3 a4 true) else (customslaw34_JournalSnapshot.j0 k t293 t296 l2 l3 a4 (decide ((l3.length : Int) > 200)))))) = some true := h
  clear h
  replace H := Option.bind_eq_some_iff.mp H
  obtain ⟨t293, A60, H⟩ := H
  replace H : ((customslaw34_cut.f k l1).bind fun t296 => (if (l2.length : Int) > 200 then (customslaw34_JournalSnapshot.j0 k t293 t296 l2 l3 a4 true) else (customslaw34_JournalSnapshot.j0 k t293 t296 l2 l3 a4 (decide ((l3.length : Int) > 200))))) = some true := H
  have A6 := Aside0.mk A60
  clear A60
  replace H := Option.bind_eq_some_iff.mp H
  obtain ⟨t296, A70, H⟩ := H
  replace H : (if (l2.length : Int) > 200 then (customslaw34_JournalSnapshot.j0 k t293 t296 l2 l3 a4 true) else (customslaw34_JournalSnapshot.j0 k t293 t296 l2 l3 a4 (decide ((l3.length : Int) > 200)))) = some true := H
  have A7 := Aside0.mk A70
  clear A70
  have HC8 := Aside0.mk H
  clear H
  go_enter Try.func11, Try.ntmps11
  go_upto_region 2 with (first | ((with_reducible refine gate_callee (f := 33) rfl ?_); refine goesL_ (some 27) rfl rfl Try.func33 (by kernel_rfl) rfl #[.slice A0 l0.length c0] rfl (by (try simp only [List.map_toArray, List.map_cons, List.map_nil]); first | done | rfl | (simp only [List.length_drop, List.length_take]; rfl)) ?_; (with_reducible refine (customslaw34_cut.calls k (fun k_ => k_ < w.heap.size) _ _ l0 t293 _ ?side1 A6.out).mono ?_); (case side1 => exact Kd.V_mk HC0.out (Kd.F_below (Kd.C_F (Kd.heap_slice 5 (Kd.heap_int .u8)) HR0.out) (by exact pB HB.out))); rintro e w9 ⟨v294, rfl, ho0, hb⟩; refine ⟨_, rfl, ?_⟩; have n0_ := Aside0.mk (Kd.N_lower (Kd.N_mono (ok' := fun k_ => True) ho0 (fun k_ hk_ => trivial)) (below_size (by exact pB HB.out))); have n1_ := Aside0.mk (below_step (by exact pB HB.out) hb); clear HB; have HO295 := n0_; have HB := n1_; clear n0_ n1_; (try clear hb); (try clear hb2); (try clear hk); (try clear hi); (try clear ho0)) | ((with_reducible refine gate_callee (f := 33) rfl ?_); refine goesL_ (some 29) rfl rfl Try.func33 (by kernel_rfl) rfl #[.slice A1 l1.length c1] rfl (by (try simp only [List.map_toArray, List.map_cons, List.map_nil]); first | done | rfl | (simp only [List.length_drop, List.length_take]; rfl)) ?_; (with_reducible refine (customslaw34_cut.calls k (fun k_ => k_ < w.heap.size) _ _ l1 t296 _ ?side1 A7.out).mono ?_); (case side1 => exact Kd.V_mk HC1.out (Kd.F_below (Kd.C_F (Kd.heap_slice 5 (Kd.heap_int .u8)) HR1.out) (by exact pB HB.out))); rintro e w10 ⟨v297, rfl, ho0, hb⟩; refine ⟨_, rfl, ?_⟩; have n0_ := Aside0.mk (Kd.N_elder' (by exact pN HO295.out) (by first | exact Kd.N_base ho0 | exact Kd.S_base ho0 | exact Kd.R_base ho0 | exact Kd.Q_base ho0) hb); have n1_ := Aside0.mk (Kd.N_lower (Kd.N_mono (ok' := fun k_ => some k_ ≠ (v294 : Value).ownBlock) ho0 (fun k_ hk_ => Or.elim hk_ (fun hs_ => fun e_ => Nat.not_le.2 hs_ (Kd.N_base HO295.out k_ e_.symm)) (fun hn_ => (Kd.fresh' (Kd.N_lt (by exact pN HO295.out)) k_ hn_)))) (below_size (by exact pB HB.out))); have n2_ := Aside0.mk (below_step (by exact pB HB.out) hb); clear HO295; clear HB; have HO295 := n0_; have HO298 := n1_; have HB := n2_; clear n0_ n1_ n2_; (try clear hb); (try clear hb2); (try clear hk); (try clear hi); (try clear ho0)))
  (try simp only [Act.put, List.setIfInBounds_toArray, List.set_cons_zero, List.set_cons_succ])
  go_cut [37] (fun v37 wc => ∃ (kq : Nat) (x37_7 : Bool), v37 = .bool x37_7 ∧ Aside0 (customslaw34_JournalSnapshot.j0 kq t293 t296 l2 l3 a4 x37_7 = some true) ∧ Aside0 (kq ≤ k) ∧ Aside0 (Kd.N (Kd.slice 5 (Kd.int .u8)) 22 wc w.heap.size (fun k_ => some k_ ≠ (v297 : Value).ownBlock) v294 t293) ∧ Aside0 (Kd.N (Kd.slice 5 (Kd.int .u8)) 22 wc w.heap.size (fun k_ => some k_ ≠ (v294 : Value).ownBlock) v297 t296) ∧ Aside0 (Below w.heap.size w wc))
  case first =>
    have H := HC8.out
    clear HC8
    by_cases c11 : (l2.length : Int) > 200
    · rw [if_pos c11] at H
      have c11b0 : decide (200 < (l2.length : Int)) = true := decide_eq_true c11
      have c11b1 : decide (200 < l2.length) = true := decide_eq_true (by omega)
      clear c11
      (first | rw [c11b0] | (simp only [i64_w, i32_w]; rw [c11b0]) | skip)
      have H' := Aside0.mk H
      clear H
      go_wp2
      go_meet
      case rel => exact ⟨_, (true), (by first | rfl | (simp; done) | (simp [*]; done)), H', ⟨by first | omega | exact Nat.le_refl _⟩, ⟨by exact pN (Kd.N_mono HO295.out (fun _ hk => hk.2))⟩, ⟨by exact pN HO298.out⟩, ⟨by exact pB HB.out⟩⟩
    · rw [if_neg c11] at H
      have c11b0 : decide (200 < (l2.length : Int)) = false := decide_eq_false c11
      have c11b1 : decide (200 < l2.length) = false := decide_eq_false (by omega)
      clear c11
      (first | rw [c11b0] | (simp only [i64_w, i32_w]; rw [c11b0]) | skip)
      have H' := Aside0.mk H
      clear H
      go_wp2
      go_meet
      case rel => exact ⟨_, (decide ((l3.length : Int) > 200)), (by first | rfl | (simp; done) | (simp [*]; done)), H', ⟨by first | omega | exact Nat.le_refl _⟩, ⟨by exact pN (Kd.N_mono HO295.out (fun _ hk => hk.2))⟩, ⟨by exact pN HO298.out⟩, ⟨by exact pB HB.out⟩⟩
  case rest =>
    clear HC8
    try clear c1
    try clear c2
    try clear p2
    try clear c3
    try clear c11
    try clear c11b0
    try clear c11b1
    obtain ⟨kq, x37_7, rfl, HA, HJ7, HO_0, HO_1, HB⟩ := hcut
    cases kq with
    | zero => exact absurd HA.out (by simp [customslaw34_JournalSnapshot.j0])
    | succ kj7 =>
      have H := HA.out
      clear HA
      simp only [customslaw34_JournalSnapshot.j0] at H
      by_cases c12 : x37_7 = true
      · subst c12
        have H1 : ((customslaw34_awake.f kj7).bind fun t299 => (some t299)) = some true := by rw [if_pos rfl] at H; exact H
        clear H
        have H := H1
        clear H1
        replace H := Option.bind_eq_some_iff.mp H
        obtain ⟨t299, A130, H⟩ := H
        replace H : (some t299) = some true := H
        have A13 := Aside0.mk A130
        clear A130
        have HTR := Aside0.mk (Option.some.inj H)
        clear H
        go_wp2_with (first | ((with_reducible refine gate_callee (f := 32) rfl ?_); refine goesL_ (some 38) rfl rfl Try.func32 (by kernel_rfl) rfl #[] rfl (by (try simp only [List.map_toArray, List.map_cons, List.map_nil]); first | done | rfl | (simp only [List.length_drop, List.length_take]; rfl)) ?_; (with_reducible refine (customslaw34_awake.calls kj7  t299 _ A13.out).mono ?_); rintro e w14 ⟨rfl, hb⟩; refine ⟨_, rfl, ?_⟩; have n0_ := Aside0.mk (below_step (by exact pB HB.out) hb); clear HB; have HB := n0_; clear n0_; (try clear hb); (try clear hb2); (try clear hk); (try clear hi)))
        go_ret
        exact ⟨by first | rfl | (rw [HTR.out]; first | done | rfl) | (simp [errW_none, errW_some] <;> rfl) | (simp [*, errW_none, errW_some] <;> rfl), by exact pB HB.out⟩
      · replace c12 := Bool.eq_false_iff.mpr c12
        subst c12
        have H1 : (customslaw34_JournalSnapshot.l0 kj7 t293 t296 l2 l3 a4 0 ([] : List Int) ([] : List Int)) = some true := by rw [if_neg (show ¬ (false = true) by decide)] at H; exact H
        clear H
        have H := H1
        clear H1
        have H' := Aside0.mk H
        clear H
        go_wp2_with (first | ((with_reducible refine gate_dst (N := 11) rfl ?_); (try (refine gate_guard (by rfl) ?_; dsimp only)); refine box_event ?hg (N := 11) ?hd (cs := #[.slice none 0 0, .slice none 0 0]) (t := 24) ?hr ?_; (case hd => rfl); (case hg => rfl); (case hr => first | (go_simp; done) | (go_simp; rfl)); intro gb300 hg w15 hbox hb; have n0_ := Aside0.mk (Kd.N_below (Kd.N_elderB (by exact pN HO_0.out) gb300 (Nat.le_of_eq hg.symm)) hb); have n1_ := Aside0.mk (Kd.N_below (Kd.N_elderB (by exact pN HO_1.out) gb300 (Nat.le_of_eq hg.symm)) hb); have n2_ := Aside0.mk (below_step (by exact pB HB.out) hb); have n3_ := Aside0.mk (hbox); have n4_ := Aside0.mk ((by rw [hg]; exact (below_size (by exact pB HB.out)) : w.heap.size ≤ gb300)); have n5_ := Aside0.mk ((by rw [hg]; exact (below_size (by exact pB HB.out)) : w.heap.size ≤ gb300)); clear HO_0; clear HO_1; clear HB; have HO_0 := n0_; have HO_1 := n1_; have HB := n2_; have BK300 := n3_; have GW300 := n4_; have GE300 := n5_; clear n0_ n1_ n2_ n3_ n4_ n5_; clear hb hbox hg))
        go_loopg [12] kj7 (fun kq v12 w' => ∃ (x12_2 : Int) (x301000_2 : List Int) (x301001_2 : List Int) (u301000 : Value) (u301001 : Value), v12 = .int .i64 x12_2 ∧ Aside0 (customslaw34_JournalSnapshot.l0 kq t293 t296 l2 l3 a4 x12_2 x301000_2 x301001_2 = some true) ∧ Aside0 (kq ≤ kj7) ∧ Aside0 (Kd.N (Kd.slice 5 (Kd.int .u8)) 22 w' w.heap.size (fun k_ => some k_ ≠ (v297 : Value).ownBlock ∧ some k_ ≠ (u301000 : Value).ownBlock ∧ some k_ ≠ (u301001 : Value).ownBlock ∧ k_ ≠ gb300) v294 t293) ∧ Aside0 (Kd.N (Kd.slice 5 (Kd.int .u8)) 22 w' w.heap.size (fun k_ => some k_ ≠ (v294 : Value).ownBlock ∧ some k_ ≠ (u301000 : Value).ownBlock ∧ some k_ ≠ (u301001 : Value).ownBlock ∧ k_ ≠ gb300) v297 t296) ∧ Aside0 (Kd.R (Kd.int .u8) 5 w' w.heap.size (fun k_ => some k_ ≠ (u301001 : Value).ownBlock) u301000 x301000_2) ∧ Aside0 (Kd.R (Kd.int .u8) 5 w' w.heap.size (fun k_ => some k_ ≠ (u301000 : Value).ownBlock) u301001 x301001_2) ∧ Aside0 (w'.heap[gb300]? = some (.cells #[u301000, u301001] 24 (0, 0))) ∧ Aside0 (Below w.heap.size w w'))
        case atStart => exact ⟨(0), (([] : List Int)), (([] : List Int)), (.slice none 0 0), (.slice none 0 0), (by first | rfl | (simp; done) | (simp [*]; done)), H', ⟨Nat.le_refl _⟩, ⟨by exact pN (Kd.N_mono HO_0.out (fun _ hk => ⟨hk.1, ⟨(by simp [Value.ownBlock]), ⟨(by simp [Value.ownBlock]), hk.2⟩⟩⟩))⟩, ⟨by exact pN (Kd.N_mono HO_1.out (fun _ hk => ⟨hk.1, ⟨(by simp [Value.ownBlock]), ⟨(by simp [Value.ownBlock]), hk.2⟩⟩⟩))⟩, ⟨by first | exact Kd.R_nil _ _ _ _ _ | exact Kd.N_nil _ _ _ _ _ | exact Kd.V_nil _ _ _ _ _ | exact Kd.Q_nil _ _ _ _ _ | exact Kd.S_nil _ _ _ _ _⟩, ⟨by first | exact Kd.R_nil _ _ _ _ _ | exact Kd.N_nil _ _ _ _ _ | exact Kd.V_nil _ _ _ _ _ | exact Kd.Q_nil _ _ _ _ _ | exact Kd.S_nil _ _ _ _ _⟩, ⟨by exact pK BK300.out⟩, ⟨by exact pB HB.out⟩⟩
        case round =>
          clear H'
          try clear c1
          try clear c2
          try clear p2
          try clear c3
          try clear c11
          try clear c11b0
          try clear c11b1
          try clear c12
          try clear p2
          obtain ⟨x12_2, x301000_2, x301001_2, u301000, u301001, rfl, HA, HK2, HO_0, HO_1, HO_301000, HO_301001, BK300, HB⟩ := hrel
          cases gk with
          | zero => exact absurd HA.out (by simp [customslaw34_JournalSnapshot.l0])
          | succ k2 =>
            have H := HA.out
            clear HA
            simp only [customslaw34_JournalSnapshot.l0] at H
            by_cases c16 : x12_2 < (t293.length : Int)
            · rw [if_pos c16] at H
              have c16b0 : decide (x12_2 < (t293.length : Int)) = true := decide_eq_true c16
              clear c16
              have c17 : 0 ≤ x12_2 := by
                refine Classical.byContradiction fun c17 => ?_
                rw [if_neg c17] at H
                exact absurd H (by simp)
              rw [if_pos c17] at H
              have c17b0 : decide (0 ≤ x12_2) = true := decide_eq_true c17
              clear c17
              replace H := Option.bind_eq_some_iff.mp H
              obtain ⟨⟨t302, t305, t308⟩, A180, H⟩ := H
              replace H : (customslaw34_JournalSnapshot.l0 k2 t293 t296 l2 l3 a4 (wrap64 (x12_2 + 1)) t302 t305) = some true := H
              have A18 := Aside0.mk A180
              clear A180
              have H' := Aside0.mk H
              clear H
              obtain ⟨Ao19, co19, eo19⟩ := Kd.N_slice HO_0.out
              subst eo19
              try go_wp2
              have n0_ := Aside0.mk (Kd.N_drew HO_0.out)
              have n1_ := Aside0.mk (Kd.N_drew HO_1.out)
              have n2_ := Aside0.mk (Kd.R_drew HO_301000.out)
              have n3_ := Aside0.mk (Kd.R_drew HO_301001.out)
              have n4_ := Aside0.mk (blk_drew BK300.out)
              have n5_ := Aside0.mk (below_drew1 HB.out)
              clear HO_0
              clear HO_1
              clear HO_301000
              clear HO_301001
              clear BK300
              clear HB
              have HO_0 := n0_
              have HO_1 := n1_
              have HO_301000 := n2_
              have HO_301001 := n3_
              have BK300 := n4_
              have HB := n5_
              clear n0_ n1_ n2_ n3_ n4_ n5_
              have p301 : 0 ≤ (x12_2 : Int) := of_decide_eq_true (by first | (with_reducible assumption) | assumption)
              have q301 : x12_2 < (t293.length : Int) := of_decide_eq_true (by first | (with_reducible assumption) | assumption)
              obtain ⟨ad301, A301_0, c301_0, e301, hx301_0, hl301_0, hi301_0⟩ := at_L1 (Kd.N_reads' HO_0.out).2.2 x12_2 p301 q301
              cases e301
              obtain ⟨ce301, hce301, hMe301, hcc301⟩ := Kd.N_get HO_0.out [] x12_2 p301 (by first | exact q301 | exact of_decide_eq_true (by first | (with_reducible assumption) | assumption) | (have e_ := (Kd.N_reads' HO_0.out).1; omega))
              obtain ⟨ua301_0, uc301_0, rfl, ul301_0, ge301_0⟩ := Kd.FK_slice_open hMe301
              have hv301_0 := hcc301 0 _ rfl
              rw [Nat.add_zero, show ((Kd.slice 5 (Kd.int .u8))).sz = 1 from rfl, Nat.mul_one] at hv301_0
              replace hv301_0 := Option.some.inj (hv301_0.symm.trans hx301_0)
              injection hv301_0 with hva_ hvn_ hvc_
              rw [hva_] at ge301_0
              rw [hvc_] at ul301_0
              have HL301_0 := Aside0.mk (show Kd.V (Kd.int .u8) 5 _ w.heap.size _ _ (rd_L1 t293 x12_2) from Kd.V_mk ul301_0 ge301_0)
              clear hva_ hvn_ hvc_ ge301_0 ul301_0
              clear hcc301 hce301
              have HR301_0 := Aside0.mk hi301_0
              have HC301_0 := Aside0.mk hl301_0
              clear hi301_0 hl301_0
              replace p301 := eq_true p301
              replace q301 := eq_true q301
              obtain ⟨Ao21, co21, eo21⟩ := Kd.R_slice HO_301000.out
              (first | subst eo21 | (injection eo21 with f1_ f2_ f3_; have f4_ := f1_.symm; have f5_ := f3_.symm; clear f1_ f2_ f3_; subst f4_; subst f5_))
              obtain ⟨Ao22, co22, eo22⟩ := Kd.R_slice HO_301001.out
              (first | subst eo22 | (injection eo22 with f1_ f2_ f3_; have f4_ := f1_.symm; have f5_ := f3_.symm; clear f1_ f2_ f3_; subst f4_; subst f5_))
              refine start_ (n := 10) (S := fun w' => w'.cell? ⟨gb300, 0, none⟩ = some (.slice Ao21 x301000_2.length co21) ∧ w'.cell? ⟨gb300, 1, none⟩ = some (.slice Ao22 x301001_2.length co22) ∧ w'.cell? (ad301.add (x12_2).toNat) = some (.slice A301_0 (rd_L1 t293 x12_2).length c301_0)) (ds := [9]) #[false, false, false, false, false, false, false, false, false, false] (by kernel_rfl) rfl rfl ⟨(blk_cell BK300.out 0).trans rfl, (blk_cell BK300.out 1).trans rfl, hx301_0⟩ (fun hHeld => ?_); refine with_tabW customslaw34_JournalSnapshot.tab8 customslaw34_JournalSnapshot.bits8 (fun HT_ HW_ => ?_)
              generalize wr.drew = w20 at HO_0 HO_1 HO_301000 HO_301001 BK300 HB HL301_0 HR301_0 hx301_0 hHeld ⊢
              refine pure_ (i := 1) (N := some 47) (v := ?_) (a' := ?_) #[false, true, false, false, false, false, false, false, false, false] rfl rfl (any_of HT_.out (by kernel_rfl)) (fun _ _ _ h => h) (Or.inl ⟨by rfl, ?_⟩) ?_ ?_
              rotate_left
              · intro w'
                go_simp
                with_reducible rfl
              rotate_left
              · simp only [Act.put, List.setIfInBounds_toArray, List.set_cons_zero, List.set_cons_succ, i64_w, i32_w]
                rfl
              refine pure_ (i := 2) (N := some 48) (v := ?_) (a' := ?_) #[false, true, true, false, false, false, false, false, false, false] rfl rfl (any_of HT_.out (by kernel_rfl)) (fun _ _ _ h => h) (Or.inl ⟨by rfl, ?_⟩) ?_ ?_
              rotate_left
              · intro w'
                go_simp
                with_reducible rfl
              rotate_left
              · simp only [Act.put, List.setIfInBounds_toArray, List.set_cons_zero, List.set_cons_succ, i64_w, i32_w]
                rfl
              refine pure_ (i := 3) (N := some 49) (v := ?_) (a' := ?_) #[false, true, true, true, false, false, false, false, false, false] rfl rfl (any_of HT_.out (by kernel_rfl)) (fun _ _ _ h => h) (Or.inl ⟨by rfl, ?_⟩) ?_ ?_
              rotate_left
              · intro w'
                go_simp
                with_reducible rfl
              rotate_left
              · simp only [Act.put, List.setIfInBounds_toArray, List.set_cons_zero, List.set_cons_succ, i64_w, i32_w]
                rfl
              refine take_ (i := 0) (N := some 46) (v := ?_) (a' := ?_) #[true, true, true, true, false, false, false, false, false, false] rfl rfl (take_ofW HT_.out HW_.out (by kernel_rfl)) (fun _ _ _ h => h) (Or.inl ⟨by rfl, ?_⟩) hHeld ?_ ?_
              rotate_left
              · rintro w' ⟨s0, s1, s2⟩
                go_simp
                with_reducible rfl
              rotate_left
              · simp only [Act.put, List.setIfInBounds_toArray, List.set_cons_zero, List.set_cons_succ, i64_w, i32_w]
                rfl
              refine take_ (i := 4) (N := some 50) (v := ?_) (a' := ?_) #[true, true, true, true, true, false, false, false, false, false] rfl rfl (take_ofW HT_.out HW_.out (by kernel_rfl)) (fun _ _ _ h => h) (Or.inl ⟨by rfl, ?_⟩) hHeld ?_ ?_
              rotate_left
              · rintro w' ⟨s0, s1, s2⟩
                go_simp
                with_reducible rfl
              rotate_left
              · simp only [Act.put, List.setIfInBounds_toArray, List.set_cons_zero, List.set_cons_succ, i64_w, i32_w]
                rfl
              refine one_ (i := 5) (N := some 51) #[true, true, true, true, true, true, false, false, false, false] rfl rfl (one_of HT_.out (by kernel_rfl)) (by decide) (fun K hK => ?_)
              refine goes_ Try.func36 (by kernel_rfl) rfl #[.agg #[.slice Ao21 x301000_2.length co21, .slice Ao22 x301001_2.length co22], .slice A301_0 (rd_L1 t293 x12_2).length c301_0] (by rfl) rfl rfl (by (try simp only [List.map_toArray, List.map_cons, List.map_nil]); first | done | rfl | (simp only [List.length_drop, List.length_take]; rfl)) ?_
              with_reducible refine (journal_Append.calls k2 _ _ x301000_2 _ _ x301001_2 _ _ (rd_L1 t293 x12_2) t302 t305 t308 _ ?side1 ?side2 ?side3 ?side4 ?side5 ?side6 A18.out).mono ?_
              (case side1 => exact pC (Kd.R_reads' HO_301000.out).2.2)
              (case side2 => exact (Kd.R_reads' HO_301000.out).2.1)
              (case side3 => exact pC (Kd.R_reads' HO_301001.out).2.2)
              (case side4 => exact (Kd.R_reads' HO_301001.out).2.1)
              (case side5 => exact pC (by exact pC HR301_0.out))
              (case side6 => exact HC301_0.out)
              rintro e w23 ⟨v303, v306, rfl, ho0, ho1, hb⟩
              have HS2_ := (hb.cell (World.block_lt_of_cell? _ _ (hHeld.2.2))).trans (hHeld.2.2)
              refine ⟨_, rfl, ?_⟩
              have n0_ := Aside0.mk (Kd.N_mono (Kd.N_told (Kd.N_told (Kd.N_old (by exact pN HO_0.out) hb) (Kd.R_base ho0)) (Kd.R_base ho1)) (fun _ h_ => h_.1))
              have n1_ := Aside0.mk (Kd.N_mono (Kd.N_told (Kd.N_told (Kd.N_old (by exact pN HO_1.out) hb) (Kd.R_base ho0)) (Kd.R_base ho1)) (fun _ h_ => h_.1))
              have n2_ := Aside0.mk (Kd.R_mono (Kd.R_told (Kd.R_told (Kd.R_old (by exact pR HO_301000.out) hb) (Kd.R_base ho0)) (Kd.R_base ho1)) (fun _ h_ => h_.1))
              have n3_ := Aside0.mk (Kd.R_mono (Kd.R_told (Kd.R_told (Kd.R_old (by exact pR HO_301001.out) hb) (Kd.R_base ho0)) (Kd.R_base ho1)) (fun _ h_ => h_.1))
              have n4_ := Aside0.mk (Kd.V_mono (Kd.V_told (Kd.V_told (Kd.V_old (by exact pV HL301_0.out) hb) (Kd.R_base ho0)) (Kd.R_base ho1)) (fun _ h_ => h_.1))
              have n5_ := Aside0.mk (Kd.R_lower (Kd.R_new' (Kd.R_new' ho0 (Kd.R_lt (by exact pR HO_301000.out))) (Kd.R_lt (by exact pR HO_301001.out))) (below_size (by exact pB HB.out)))
              have n6_ := Aside0.mk (Kd.R_lower (Kd.R_new' (Kd.R_new' ho1 (Kd.R_lt (by exact pR HO_301000.out))) (Kd.R_lt (by exact pR HO_301001.out))) (below_size (by exact pB HB.out)))
              have n7_ := Aside0.mk (blk_below (g := gb300) (o := .cells #[.slice Ao21 x301000_2.length co21, .slice Ao22 x301001_2.length co22] 24 (0, 0)) (by exact pK BK300.out) hb)
              have n8_ := Aside0.mk (Kd.C_below (by exact pC HR301_0.out) hb)
              have n9_ := Aside0.mk (below_step (by exact pB HB.out) hb)
              clear HO_0
              clear HO_1
              clear HO_301000
              clear HO_301001
              clear HL301_0
              clear BK300
              clear HR301_0
              clear HB
              have HO_0 := n0_
              have HO_1 := n1_
              have HO_301000 := n2_
              have HO_301001 := n3_
              have HL301_0 := n4_
              have HO304 := n5_
              have HO307 := n6_
              have BK300 := n7_
              have HR301_0 := n8_
              have HB := n9_
              clear n0_ n1_ n2_ n3_ n4_ n5_ n6_ n7_ n8_ n9_
              (try clear hb)
              (try clear hb2)
              (try clear hk)
              (try clear hi)
              (try clear ho0)
              (try clear ho1)
              obtain ⟨Ao24, co24, eo24⟩ := Kd.R_slice HO304.out
              (first | subst eo24 | (injection eo24 with f1_ f2_ f3_; have f4_ := f1_.symm; have f5_ := f3_.symm; clear f1_ f2_ f3_; subst f4_; subst f5_))
              obtain ⟨Ao26, co26, eo26⟩ := Kd.R_slice HO307.out
              (first | subst eo26 | (injection eo26 with f1_ f2_ f3_; have f4_ := f1_.symm; have f5_ := f3_.symm; clear f1_ f2_ f3_; subst f4_; subst f5_))
              refine hK.out _ _ ⟨(blk_cell BK300.out 0).trans rfl, (blk_cell BK300.out 1).trans rfl, HS2_⟩ (fun hHeld => ?_)
              clear hK K
              refine norm_ (a' := ?_) ?_ ?_
              rotate_left
              · show Act.put _ (some 51) _ = _
                simp only [Act.put, List.setIfInBounds_toArray, List.set_cons_zero, List.set_cons_succ, i64_w, i32_w]
                rfl
              refine pure_ (i := 6) (N := some 45) (v := ?_) (a' := ?_) #[true, true, true, true, true, true, true, false, false, false] rfl rfl (any_of HT_.out (by kernel_rfl)) (fun _ _ _ h => h) (Or.inl ⟨by rfl, ?_⟩) ?_ ?_
              rotate_left
              · intro w'
                go_simp
                with_reducible rfl
              rotate_left
              · simp only [Act.put, List.setIfInBounds_toArray, List.set_cons_zero, List.set_cons_succ, i64_w, i32_w]
                rfl
              refine pure_ (i := 7) (N := some 52) (v := ?_) (a' := ?_) #[true, true, true, true, true, true, true, true, false, false] rfl rfl (any_of HT_.out (by kernel_rfl)) (fun _ _ _ h => h) (Or.inl ⟨by rfl, ?_⟩) ?_ ?_
              rotate_left
              · intro w'
                go_simp
                with_reducible rfl
              rotate_left
              · simp only [Act.put, List.setIfInBounds_toArray, List.set_cons_zero, List.set_cons_succ, i64_w, i32_w]
                rfl
              refine pure_ (i := 8) (N := some 53) (v := ?_) (a' := ?_) #[true, true, true, true, true, true, true, true, true, false] rfl rfl (any_of HT_.out (by kernel_rfl)) (fun _ _ _ h => h) (Or.inl ⟨by rfl, ?_⟩) ?_ ?_
              rotate_left
              · intro w'
                go_simp
                with_reducible rfl
              rotate_left
              · simp only [Act.put, List.setIfInBounds_toArray, List.set_cons_zero, List.set_cons_succ, i64_w, i32_w]
                rfl
              refine last_ (i := 9) (N := none) #[true, true, true, true, true, true, true, true, true, true] rfl rfl (one_of HT_.out (by kernel_rfl)) (by decide) (fun K hK => ?_)
              have hs25 : w23.cell? ⟨gb300, 0, none⟩ = some (.slice Ao21 x301000_2.length co21) := (blk_cell BK300.out 0).trans rfl
              have hfs25 := blk_frozen BK300.out 0
              have hs27 : w23.cell? ⟨gb300, 1, none⟩ = some (.slice Ao22 x301001_2.length co22) := (blk_cell BK300.out 1).trans rfl
              have hfs27 := blk_frozen BK300.out 1
              refine skip_ (w1 := ?_) (by rfl) rfl ?_ ?_
              rotate_left
              · go_simp
                rfl
              refine hK.out _ _ ?_
              clear hK K
              refine done_ (done_of HT_.out (by kernel_rfl)) ?_
              try go_wp2
              go_roundg k2
              case measure => have := HJ7.out; have := HK2.out; omega
              case rel => exact ⟨(wrap64 (x12_2 + 1)), (t302), (t305), (.slice Ao24 t302.length co24), (.slice Ao26 t305.length co26), (by first | rfl | (simp; done) | (simp [*]; done)), H', ⟨by have := HJ7.out; have := HK2.out; omega⟩, ⟨by (with_reducible repeat (first | apply Kd.N_alloc | apply Kd.N_drewN | apply Kd.N_drew)); exact Kd.N_mono (Kd.N_far (p := ⟨gb300, 1, none⟩) (Kd.N_far (p := ⟨gb300, 0, none⟩) (Kd.N_mono HO_0.out (fun k_ hk => (⟨hk, hk.1.1.2.2.2⟩ : _ ∧ k_ ≠ gb300))) (fun _ hk => hk.2) (.slice Ao24 t302.length co24)) (fun _ hk => hk.2) (.slice Ao26 t305.length co26)) (fun _ hk => ⟨hk.1.1.1.1, ⟨hk.1.1.2, ⟨hk.1.2, hk.1.1.1.2.2.2⟩⟩⟩)⟩, ⟨by (with_reducible repeat (first | apply Kd.N_alloc | apply Kd.N_drewN | apply Kd.N_drew)); exact Kd.N_mono (Kd.N_far (p := ⟨gb300, 1, none⟩) (Kd.N_far (p := ⟨gb300, 0, none⟩) (Kd.N_mono HO_1.out (fun k_ hk => (⟨hk, hk.1.1.2.2.2⟩ : _ ∧ k_ ≠ gb300))) (fun _ hk => hk.2) (.slice Ao24 t302.length co24)) (fun _ hk => hk.2) (.slice Ao26 t305.length co26)) (fun _ hk => ⟨hk.1.1.1.1, ⟨hk.1.1.2, ⟨hk.1.2, hk.1.1.1.2.2.2⟩⟩⟩)⟩, ⟨by (with_reducible repeat (first | apply Kd.R_alloc | apply Kd.R_drewN | apply Kd.R_drew)); exact Kd.R_mono (Kd.R_far (p := ⟨gb300, 1, none⟩) (Kd.R_far (p := ⟨gb300, 0, none⟩) (Kd.R_types HO304.out BK300.out (by decide)) (fun _ hk => hk.2) (.slice Ao24 t302.length co24)) (fun _ hk => hk.2) (.slice Ao26 t305.length co26)) (fun _ hk => hk.1.1.1)⟩, ⟨by (with_reducible repeat (first | apply Kd.R_alloc | apply Kd.R_drewN | apply Kd.R_drew)); exact Kd.R_mono (Kd.R_far (p := ⟨gb300, 1, none⟩) (Kd.R_far (p := ⟨gb300, 0, none⟩) (Kd.R_types HO307.out BK300.out (by decide)) (fun _ hk => hk.2) (.slice Ao24 t302.length co24)) (fun _ hk => hk.2) (.slice Ao26 t305.length co26)) (fun _ hk => hk.1.1.1)⟩, ⟨by (with_reducible repeat (first | refine blk_drewN ?_ _ | refine blk_drew ?_ | refine blk_alloc ?_ _)); refine blk_put (cs := #[.slice Ao24 t302.length co24, .slice Ao22 x301001_2.length co22]) ?_ 1 _ rfl; (with_reducible repeat (first | refine blk_drewN ?_ _ | refine blk_drew ?_ | refine blk_alloc ?_ _)); refine blk_put (cs := #[.slice Ao21 x301000_2.length co21, .slice Ao22 x301001_2.length co22]) ?_ 0 _ rfl; (with_reducible repeat (first | refine blk_drewN ?_ _ | refine blk_drew ?_ | refine blk_alloc ?_ _)); exact BK300.out⟩, ⟨by repeat (first | (with_reducible first | exact HB.out | apply below_alloc | apply pw_below_drewN | apply below_drew1 | refine below_set ?_ GE300.out) | exact HB.out)⟩⟩
            · rw [if_neg c16] at H
              have c16b0 : decide (x12_2 < (t293.length : Int)) = false := decide_eq_false c16
              clear c16
              replace H := Option.bind_eq_some_iff.mp H
              obtain ⟨⟨t309, t312, t315⟩, A280, H⟩ := H
              replace H : ((disk_Sync.f t309 t312).bind fun bt316 => (customslaw34_JournalSnapshot.l1 k2 t296 l2 l3 a4 t315 0 bt316.1 bt316.2)) = some true := H
              have A28 := Aside0.mk A280
              clear A280
              replace H := Option.bind_eq_some_iff.mp H
              obtain ⟨⟨t316, t319⟩, A290, H⟩ := H
              replace H : (customslaw34_JournalSnapshot.l1 k2 t296 l2 l3 a4 t315 0 t316 t319) = some true := H
              have A29 := Aside0.mk A290
              clear A290
              have H' := Aside0.mk H
              clear H
              obtain ⟨Ao30, co30, eo30⟩ := Kd.N_slice HO_0.out
              subst eo30
              have hcz31_0 : wr.cell? ⟨gb300, 0, none⟩ = some (u301000) := (blk_cell BK300.out 0).trans rfl
              have hcz31_1 : wr.cell? ⟨gb300, 1, none⟩ = some (u301001) := (blk_cell BK300.out 1).trans rfl
              have hfz31_0 := blk_frozen BK300.out 0
              have hfz31_1 := blk_frozen BK300.out 1
              obtain ⟨Ao32, co32, eo32⟩ := Kd.R_slice HO_301000.out
              subst eo32
              obtain ⟨Ao33, co33, eo33⟩ := Kd.R_slice HO_301001.out
              subst eo33
              go_wp2_with (first | ((with_reducible refine gate_callee (f := 35) rfl ?_); refine goesL_ (some 58) rfl rfl Try.func35 (by kernel_rfl) rfl #[.agg #[.slice Ao32 x301000_2.length co32, .slice Ao33 x301001_2.length co33], .agg #[.int .i64 2, .slice A2 l2.length c2]] rfl (by (try simp only [List.map_toArray, List.map_cons, List.map_nil]); first | done | rfl | (simp only [List.length_drop, List.length_take]; rfl)) ?_; (with_reducible refine (journal_Put.calls k2 _ _ x301000_2 _ _ x301001_2 2 _ _ l2 t309 t312 t315 _ ?side1 ?side2 ?side3 ?side4 ?side5 ?side6 A28.out).mono ?_); (case side1 => exact pC (Kd.R_reads' HO_301000.out).2.2); (case side2 => exact (Kd.R_reads' HO_301000.out).2.1); (case side3 => exact pC (Kd.R_reads' HO_301001.out).2.2); (case side4 => exact (Kd.R_reads' HO_301001.out).2.1); (case side5 => exact pC (Kd.C_below HR2.out HB.out)); (case side6 => exact HC2.out); rintro e w34 ⟨v310, v313, rfl, ho0, ho1, hb⟩; refine ⟨_, rfl, ?_⟩; have n0_ := Aside0.mk (Kd.N_mono (Kd.N_told (Kd.N_told (Kd.N_old (by exact pN HO_1.out) hb) (Kd.R_base ho0)) (Kd.R_base ho1)) (fun _ h_ => h_.1)); have n1_ := Aside0.mk (Kd.R_mono (Kd.R_told (Kd.R_told (Kd.R_old (by exact pR HO_301000.out) hb) (Kd.R_base ho0)) (Kd.R_base ho1)) (fun _ h_ => h_.1)); have n2_ := Aside0.mk (Kd.R_mono (Kd.R_told (Kd.R_told (Kd.R_old (by exact pR HO_301001.out) hb) (Kd.R_base ho0)) (Kd.R_base ho1)) (fun _ h_ => h_.1)); have n3_ := Aside0.mk (Kd.R_lower (Kd.R_new' (Kd.R_new' ho0 (Kd.R_lt (by exact pR HO_301000.out))) (Kd.R_lt (by exact pR HO_301001.out))) (below_size (by exact pB HB.out))); have n4_ := Aside0.mk (Kd.R_lower (Kd.R_new' (Kd.R_new' ho1 (Kd.R_lt (by exact pR HO_301000.out))) (Kd.R_lt (by exact pR HO_301001.out))) (below_size (by exact pB HB.out))); have n5_ := Aside0.mk (blk_below (g := gb300) (o := .cells #[.slice Ao32 x301000_2.length co32, .slice Ao33 x301001_2.length co33] 24 (0, 0)) (by exact pK BK300.out) hb); have n6_ := Aside0.mk (below_step (by exact pB HB.out) hb); clear HO_1; clear HO_301000; clear HO_301001; clear BK300; clear HB; have HO_1 := n0_; have HO_301000 := n1_; have HO_301001 := n2_; have HO311 := n3_; have HO314 := n4_; have BK300 := n5_; have HB := n6_; clear n0_ n1_ n2_ n3_ n4_ n5_ n6_; (try clear hb); (try clear hb2); (try clear hk); (try clear hi); (try clear ho0); (try clear ho1); obtain ⟨Ao35, co35, eo35⟩ := Kd.R_slice HO311.out; subst eo35; have hcz36_0 : w34.cell? ⟨gb300, 0, none⟩ = some (.slice Ao32 x301000_2.length co32) := (blk_cell BK300.out 0).trans rfl; have hcz36_1 : w34.cell? ⟨gb300, 1, none⟩ = some (.slice Ao33 x301001_2.length co33) := (blk_cell BK300.out 1).trans rfl; have hfz36_0 := blk_frozen BK300.out 0; have hfz36_1 := blk_frozen BK300.out 1; obtain ⟨Ao37, co37, eo37⟩ := Kd.R_slice HO314.out; subst eo37) | ((with_reducible refine gate_callee (f := 15) rfl ?_); refine goesL_ (some 62) rfl rfl Try.func15 (by kernel_rfl) rfl #[.agg #[.slice Ao35 t309.length co35, .slice Ao37 t312.length co37]] rfl (by (try simp only [List.map_toArray, List.map_cons, List.map_nil]); first | done | rfl | (simp only [List.length_drop, List.length_take]; rfl)) ?_; (with_reducible refine (disk_Sync.calls _ _ t309 _ _ t312 t316 t319 _ ?side1 ?side2 ?side3 ?side4 A29.out).mono ?_); (case side1 => refine (Kd.R_reads' (e := 5) (base := w.heap.size) (ok := fun k_ => ((some k_ ≠ (.slice Ao37 t312.length co37 : Value).ownBlock ∧ some k_ ≠ (.slice Ao32 x301000_2.length co32 : Value).ownBlock) ∧ some k_ ≠ (.slice Ao33 x301001_2.length co33 : Value).ownBlock)) (n := t309.length) (c := co35) ?_).2.2; exact (by (with_reducible repeat (first | apply Kd.R_alloc | apply Kd.R_drewN | apply Kd.R_drew)); exact (Kd.R_mono (Kd.R_far (p := ⟨gb300, 1, none⟩) (Kd.R_far (p := ⟨gb300, 0, none⟩) (Kd.R_types HO311.out BK300.out (by decide)) (fun _ hk => hk.2) (.slice Ao35 t309.length co35)) (fun _ hk => hk.2) (.slice Ao37 t312.length co37)) (fun _ h_ => h_.1)))); (case side2 => exact (Kd.R_reads' HO311.out).2.1); (case side3 => refine (Kd.R_reads' (e := 5) (base := w.heap.size) (ok := fun k_ => ((some k_ ≠ (.slice Ao35 t309.length co35 : Value).ownBlock ∧ some k_ ≠ (.slice Ao32 x301000_2.length co32 : Value).ownBlock) ∧ some k_ ≠ (.slice Ao33 x301001_2.length co33 : Value).ownBlock)) (n := t312.length) (c := co37) ?_).2.2; exact (by (with_reducible repeat (first | apply Kd.R_alloc | apply Kd.R_drewN | apply Kd.R_drew)); exact (Kd.R_mono (Kd.R_far (p := ⟨gb300, 1, none⟩) (Kd.R_far (p := ⟨gb300, 0, none⟩) (Kd.R_types HO314.out BK300.out (by decide)) (fun _ hk => hk.2) (.slice Ao35 t309.length co35)) (fun _ hk => hk.2) (.slice Ao37 t312.length co37)) (fun _ h_ => h_.1)))); (case side4 => exact (Kd.R_reads' HO314.out).2.1); rintro e w38 ⟨v317, v320, rfl, ho0, ho1, hb⟩; refine ⟨_, rfl, ?_⟩; have n0_ := Aside0.mk (Kd.N_mono (Kd.N_told (Kd.N_told (Kd.N_old (by (with_reducible repeat (first | apply Kd.N_alloc | apply Kd.N_drewN | apply Kd.N_drew)); exact (Kd.N_mono (Kd.N_far (p := ⟨gb300, 1, none⟩) (Kd.N_far (p := ⟨gb300, 0, none⟩) (Kd.N_mono HO_1.out (fun k_ hk => (⟨hk, hk.1.1.2.2.2⟩ : _ ∧ k_ ≠ gb300))) (fun _ hk => hk.2) (.slice Ao35 t309.length co35)) (fun _ hk => hk.2) (.slice Ao37 t312.length co37)) (fun _ h_ => h_.1))) hb) (Kd.R_base ho0)) (Kd.R_base ho1)) (fun _ h_ => h_.1)); have n1_ := Aside0.mk (Kd.R_mono (Kd.R_told (Kd.R_told (Kd.R_old (by (with_reducible repeat (first | apply Kd.R_alloc | apply Kd.R_drewN | apply Kd.R_drew)); exact (Kd.R_mono (Kd.R_far (p := ⟨gb300, 1, none⟩) (Kd.R_far (p := ⟨gb300, 0, none⟩) (Kd.R_types HO_301000.out BK300.out (by decide)) (fun _ hk => hk.2) (.slice Ao35 t309.length co35)) (fun _ hk => hk.2) (.slice Ao37 t312.length co37)) (fun _ h_ => h_.1))) hb) (Kd.R_base ho0)) (Kd.R_base ho1)) (fun _ h_ => h_.1)); have n2_ := Aside0.mk (Kd.R_mono (Kd.R_told (Kd.R_told (Kd.R_old (by (with_reducible repeat (first | apply Kd.R_alloc | apply Kd.R_drewN | apply Kd.R_drew)); exact (Kd.R_mono (Kd.R_far (p := ⟨gb300, 1, none⟩) (Kd.R_far (p := ⟨gb300, 0, none⟩) (Kd.R_types HO_301001.out BK300.out (by decide)) (fun _ hk => hk.2) (.slice Ao35 t309.length co35)) (fun _ hk => hk.2) (.slice Ao37 t312.length co37)) (fun _ h_ => h_.1))) hb) (Kd.R_base ho0)) (Kd.R_base ho1)) (fun _ h_ => h_.1)); have n3_ := Aside0.mk (Kd.R_mono (Kd.R_told (Kd.R_told (Kd.R_old (by (with_reducible repeat (first | apply Kd.R_alloc | apply Kd.R_drewN | apply Kd.R_drew)); exact (Kd.R_mono (Kd.R_far (p := ⟨gb300, 1, none⟩) (Kd.R_far (p := ⟨gb300, 0, none⟩) (Kd.R_types HO311.out BK300.out (by decide)) (fun _ hk => hk.2) (.slice Ao35 t309.length co35)) (fun _ hk => hk.2) (.slice Ao37 t312.length co37)) (fun _ h_ => h_.1))) hb) (Kd.R_base ho0)) (Kd.R_base ho1)) (fun _ h_ => h_.1)); have n4_ := Aside0.mk (Kd.R_mono (Kd.R_told (Kd.R_told (Kd.R_old (by (with_reducible repeat (first | apply Kd.R_alloc | apply Kd.R_drewN | apply Kd.R_drew)); exact (Kd.R_mono (Kd.R_far (p := ⟨gb300, 1, none⟩) (Kd.R_far (p := ⟨gb300, 0, none⟩) (Kd.R_types HO314.out BK300.out (by decide)) (fun _ hk => hk.2) (.slice Ao35 t309.length co35)) (fun _ hk => hk.2) (.slice Ao37 t312.length co37)) (fun _ h_ => h_.1))) hb) (Kd.R_base ho0)) (Kd.R_base ho1)) (fun _ h_ => h_.1)); have n5_ := Aside0.mk (Kd.R_lower (Kd.R_new' (Kd.R_new' (Kd.R_new' (Kd.R_new' ho0 (Kd.R_lt (by (with_reducible repeat (first | apply Kd.R_alloc | apply Kd.R_drewN | apply Kd.R_drew)); exact (Kd.R_mono (Kd.R_far (p := ⟨gb300, 1, none⟩) (Kd.R_far (p := ⟨gb300, 0, none⟩) (Kd.R_types HO_301000.out BK300.out (by decide)) (fun _ hk => hk.2) (.slice Ao35 t309.length co35)) (fun _ hk => hk.2) (.slice Ao37 t312.length co37)) (fun _ h_ => h_.1))))) (Kd.R_lt (by (with_reducible repeat (first | apply Kd.R_alloc | apply Kd.R_drewN | apply Kd.R_drew)); exact (Kd.R_mono (Kd.R_far (p := ⟨gb300, 1, none⟩) (Kd.R_far (p := ⟨gb300, 0, none⟩) (Kd.R_types HO_301001.out BK300.out (by decide)) (fun _ hk => hk.2) (.slice Ao35 t309.length co35)) (fun _ hk => hk.2) (.slice Ao37 t312.length co37)) (fun _ h_ => h_.1))))) (Kd.R_lt (by (with_reducible repeat (first | apply Kd.R_alloc | apply Kd.R_drewN | apply Kd.R_drew)); exact (Kd.R_mono (Kd.R_far (p := ⟨gb300, 1, none⟩) (Kd.R_far (p := ⟨gb300, 0, none⟩) (Kd.R_types HO311.out BK300.out (by decide)) (fun _ hk => hk.2) (.slice Ao35 t309.length co35)) (fun _ hk => hk.2) (.slice Ao37 t312.length co37)) (fun _ h_ => h_.1))))) (Kd.R_lt (by (with_reducible repeat (first | apply Kd.R_alloc | apply Kd.R_drewN | apply Kd.R_drew)); exact (Kd.R_mono (Kd.R_far (p := ⟨gb300, 1, none⟩) (Kd.R_far (p := ⟨gb300, 0, none⟩) (Kd.R_types HO314.out BK300.out (by decide)) (fun _ hk => hk.2) (.slice Ao35 t309.length co35)) (fun _ hk => hk.2) (.slice Ao37 t312.length co37)) (fun _ h_ => h_.1))))) (below_size (by repeat (first | (with_reducible first | exact HB.out | apply below_alloc | apply pw_below_drewN | apply below_drew1 | refine below_set ?_ GE300.out) | exact HB.out)))); have n6_ := Aside0.mk (Kd.R_lower (Kd.R_new' (Kd.R_new' (Kd.R_new' (Kd.R_new' ho1 (Kd.R_lt (by (with_reducible repeat (first | apply Kd.R_alloc | apply Kd.R_drewN | apply Kd.R_drew)); exact (Kd.R_mono (Kd.R_far (p := ⟨gb300, 1, none⟩) (Kd.R_far (p := ⟨gb300, 0, none⟩) (Kd.R_types HO_301000.out BK300.out (by decide)) (fun _ hk => hk.2) (.slice Ao35 t309.length co35)) (fun _ hk => hk.2) (.slice Ao37 t312.length co37)) (fun _ h_ => h_.1))))) (Kd.R_lt (by (with_reducible repeat (first | apply Kd.R_alloc | apply Kd.R_drewN | apply Kd.R_drew)); exact (Kd.R_mono (Kd.R_far (p := ⟨gb300, 1, none⟩) (Kd.R_far (p := ⟨gb300, 0, none⟩) (Kd.R_types HO_301001.out BK300.out (by decide)) (fun _ hk => hk.2) (.slice Ao35 t309.length co35)) (fun _ hk => hk.2) (.slice Ao37 t312.length co37)) (fun _ h_ => h_.1))))) (Kd.R_lt (by (with_reducible repeat (first | apply Kd.R_alloc | apply Kd.R_drewN | apply Kd.R_drew)); exact (Kd.R_mono (Kd.R_far (p := ⟨gb300, 1, none⟩) (Kd.R_far (p := ⟨gb300, 0, none⟩) (Kd.R_types HO311.out BK300.out (by decide)) (fun _ hk => hk.2) (.slice Ao35 t309.length co35)) (fun _ hk => hk.2) (.slice Ao37 t312.length co37)) (fun _ h_ => h_.1))))) (Kd.R_lt (by (with_reducible repeat (first | apply Kd.R_alloc | apply Kd.R_drewN | apply Kd.R_drew)); exact (Kd.R_mono (Kd.R_far (p := ⟨gb300, 1, none⟩) (Kd.R_far (p := ⟨gb300, 0, none⟩) (Kd.R_types HO314.out BK300.out (by decide)) (fun _ hk => hk.2) (.slice Ao35 t309.length co35)) (fun _ hk => hk.2) (.slice Ao37 t312.length co37)) (fun _ h_ => h_.1))))) (below_size (by repeat (first | (with_reducible first | exact HB.out | apply below_alloc | apply pw_below_drewN | apply below_drew1 | refine below_set ?_ GE300.out) | exact HB.out)))); have n7_ := Aside0.mk (blk_below (g := gb300) (o := .cells #[.slice Ao35 t309.length co35, .slice Ao37 t312.length co37] 24 (0, 0)) (by (with_reducible repeat (first | refine blk_drewN ?_ _ | refine blk_drew ?_ | refine blk_alloc ?_ _)); refine blk_put (cs := #[.slice Ao35 t309.length co35, .slice Ao33 x301001_2.length co33]) ?_ 1 _ rfl; (with_reducible repeat (first | refine blk_drewN ?_ _ | refine blk_drew ?_ | refine blk_alloc ?_ _)); refine blk_put (cs := #[.slice Ao32 x301000_2.length co32, .slice Ao33 x301001_2.length co33]) ?_ 0 _ rfl; (with_reducible repeat (first | refine blk_drewN ?_ _ | refine blk_drew ?_ | refine blk_alloc ?_ _)); exact BK300.out) hb); have n8_ := Aside0.mk (below_step (by repeat (first | (with_reducible first | exact HB.out | apply below_alloc | apply pw_below_drewN | apply below_drew1 | refine below_set ?_ GE300.out) | exact HB.out)) hb); clear HO_1; clear HO_301000; clear HO_301001; clear HO311; clear HO314; clear BK300; clear HB; have HO_1 := n0_; have HO_301000 := n1_; have HO_301001 := n2_; have HO311 := n3_; have HO314 := n4_; have HO318 := n5_; have HO321 := n6_; have BK300 := n7_; have HB := n8_; clear n0_ n1_ n2_ n3_ n4_ n5_ n6_ n7_ n8_; (try clear hb); (try clear hb2); (try clear hk); (try clear hi); (try clear ho0); (try clear ho1); obtain ⟨Ao39, co39, eo39⟩ := Kd.R_slice HO318.out; subst eo39; have hcz40_0 : w38.cell? ⟨gb300, 0, none⟩ = some (.slice Ao35 t309.length co35) := (blk_cell BK300.out 0).trans rfl; have hcz40_1 : w38.cell? ⟨gb300, 1, none⟩ = some (.slice Ao37 t312.length co37) := (blk_cell BK300.out 1).trans rfl; have hfz40_0 := blk_frozen BK300.out 0; have hfz40_1 := blk_frozen BK300.out 1; obtain ⟨Ao41, co41, eo41⟩ := Kd.R_slice HO321.out; subst eo41))
              go_loopg [14] k2 (fun kq v14 w' => ∃ (x14_3 : Int) (x301000_3 : List Int) (x301001_3 : List Int) (u301000 : Value) (u301001 : Value), v14 = .int .i64 x14_3 ∧ Aside0 (customslaw34_JournalSnapshot.l1 kq t296 l2 l3 a4 t315 x14_3 x301000_3 x301001_3 = some true) ∧ Aside0 (kq ≤ k2) ∧ Aside0 (Kd.N (Kd.slice 5 (Kd.int .u8)) 22 w' w.heap.size (fun k_ => some k_ ≠ (u301000 : Value).ownBlock ∧ some k_ ≠ (u301001 : Value).ownBlock ∧ k_ ≠ gb300) v297 t296) ∧ Aside0 (Kd.R (Kd.int .u8) 5 w' w.heap.size (fun k_ => some k_ ≠ (u301001 : Value).ownBlock) u301000 x301000_3) ∧ Aside0 (Kd.R (Kd.int .u8) 5 w' w.heap.size (fun k_ => some k_ ≠ (u301000 : Value).ownBlock) u301001 x301001_3) ∧ Aside0 (w'.heap[gb300]? = some (.cells #[u301000, u301001] 24 (0, 0))) ∧ Aside0 (Below w.heap.size w w'))
              case atStart => exact ⟨(0), (t316), (t319), (.slice Ao39 t316.length co39), (.slice Ao41 t319.length co41), (by first | rfl | (simp; done) | (simp [*]; done)), H', ⟨Nat.le_refl _⟩, ⟨by (with_reducible repeat (first | apply Kd.N_alloc | apply Kd.N_drewN | apply Kd.N_drew)); exact Kd.N_mono (Kd.N_far (p := ⟨gb300, 1, none⟩) (Kd.N_far (p := ⟨gb300, 0, none⟩) (Kd.N_mono HO_1.out (fun k_ hk => (⟨hk, hk.1.1.1.1.2.2.2⟩ : _ ∧ k_ ≠ gb300))) (fun _ hk => hk.2) (.slice Ao39 t316.length co39)) (fun _ hk => hk.2) (.slice Ao41 t319.length co41)) (fun _ hk => ⟨hk.1.1.2, ⟨hk.1.2, hk.1.1.1.1.1.2.2.2⟩⟩)⟩, ⟨by (with_reducible repeat (first | apply Kd.R_alloc | apply Kd.R_drewN | apply Kd.R_drew)); exact Kd.R_mono (Kd.R_far (p := ⟨gb300, 1, none⟩) (Kd.R_far (p := ⟨gb300, 0, none⟩) (Kd.R_types HO318.out BK300.out (by decide)) (fun _ hk => hk.2) (.slice Ao39 t316.length co39)) (fun _ hk => hk.2) (.slice Ao41 t319.length co41)) (fun _ hk => hk.1.1.1.1.1)⟩, ⟨by (with_reducible repeat (first | apply Kd.R_alloc | apply Kd.R_drewN | apply Kd.R_drew)); exact Kd.R_mono (Kd.R_far (p := ⟨gb300, 1, none⟩) (Kd.R_far (p := ⟨gb300, 0, none⟩) (Kd.R_types HO321.out BK300.out (by decide)) (fun _ hk => hk.2) (.slice Ao39 t316.length co39)) (fun _ hk => hk.2) (.slice Ao41 t319.length co41)) (fun _ hk => hk.1.1.1.1.1)⟩, ⟨by (with_reducible repeat (first | refine blk_drewN ?_ _ | refine blk_drew ?_ | refine blk_alloc ?_ _)); refine blk_put (cs := #[.slice Ao39 t316.length co39, .slice Ao37 t312.length co37]) ?_ 1 _ rfl; (with_reducible repeat (first | refine blk_drewN ?_ _ | refine blk_drew ?_ | refine blk_alloc ?_ _)); refine blk_put (cs := #[.slice Ao35 t309.length co35, .slice Ao37 t312.length co37]) ?_ 0 _ rfl; (with_reducible repeat (first | refine blk_drewN ?_ _ | refine blk_drew ?_ | refine blk_alloc ?_ _)); exact BK300.out⟩, ⟨by repeat (first | (with_reducible first | exact HB.out | apply below_alloc | apply pw_below_drewN | apply below_drew1 | refine below_set ?_ GE300.out) | exact HB.out)⟩⟩
              case round =>
                clear H'
                try clear c1
                try clear c2
                try clear p2
                try clear c3
                try clear p3
                try clear q3
                try clear hx3
                try clear p6
                try clear c11
                try clear c11b0
                try clear c11b1
                try clear c12
                try clear c15
                try clear c16
                try clear c16b0
                try clear c17
                try clear c17b0
                try clear c30
                try clear p30
                try clear q30
                try clear hx30
                try clear c32
                try clear c33
                try clear c35
                try clear c36
                try clear hcz31_0
                try clear hcz31_1
                try clear hcz36_0
                try clear hcz36_1
                try clear hcz40_0
                try clear hcz40_1
                try clear hfz31_0
                try clear hfz31_1
                try clear hfz36_0
                try clear hfz36_1
                try clear hfz40_0
                try clear hfz40_1
                try clear hx301_0
                try clear p2
                try clear p301
                try clear q301
                obtain ⟨x14_3, x301000_3, x301001_3, u301000, u301001, rfl, HA, HK3, HO_1, HO_301000, HO_301001, BK300, HB⟩ := hrel
                cases gk with
                | zero => exact absurd HA.out (by simp [customslaw34_JournalSnapshot.l1])
                | succ k3 =>
                  have H := HA.out
                  clear HA
                  simp only [customslaw34_JournalSnapshot.l1] at H
                  by_cases c42 : x14_3 < (t296.length : Int)
                  · rw [if_pos c42] at H
                    have c42b0 : decide (x14_3 < (t296.length : Int)) = true := decide_eq_true c42
                    clear c42
                    have c43 : 0 ≤ x14_3 := by
                      refine Classical.byContradiction fun c43 => ?_
                      rw [if_neg c43] at H
                      exact absurd H (by simp)
                    rw [if_pos c43] at H
                    have c43b0 : decide (0 ≤ x14_3) = true := decide_eq_true c43
                    clear c43
                    replace H := Option.bind_eq_some_iff.mp H
                    obtain ⟨⟨t323, t326, t329⟩, A440, H⟩ := H
                    replace H : (customslaw34_JournalSnapshot.l1 k3 t296 l2 l3 a4 t315 (wrap64 (x14_3 + 1)) t323 t326) = some true := H
                    have A44 := Aside0.mk A440
                    clear A440
                    have H' := Aside0.mk H
                    clear H
                    obtain ⟨Ao45, co45, eo45⟩ := Kd.N_slice HO_1.out
                    subst eo45
                    try go_wp2
                    have n0_ := Aside0.mk (Kd.N_drew HO_1.out)
                    have n1_ := Aside0.mk (Kd.R_drew HO_301000.out)
                    have n2_ := Aside0.mk (Kd.R_drew HO_301001.out)
                    have n3_ := Aside0.mk (blk_drew BK300.out)
                    have n4_ := Aside0.mk (below_drew1 HB.out)
                    clear HO_1
                    clear HO_301000
                    clear HO_301001
                    clear BK300
                    clear HB
                    have HO_1 := n0_
                    have HO_301000 := n1_
                    have HO_301001 := n2_
                    have BK300 := n3_
                    have HB := n4_
                    clear n0_ n1_ n2_ n3_ n4_
                    have p322 : 0 ≤ (x14_3 : Int) := of_decide_eq_true (by first | (with_reducible assumption) | assumption)
                    have q322 : x14_3 < (t296.length : Int) := of_decide_eq_true (by first | (with_reducible assumption) | assumption)
                    obtain ⟨ad322, A322_0, c322_0, e322, hx322_0, hl322_0, hi322_0⟩ := at_L1 (Kd.N_reads' HO_1.out).2.2 x14_3 p322 q322
                    cases e322
                    obtain ⟨ce322, hce322, hMe322, hcc322⟩ := Kd.N_get HO_1.out [] x14_3 p322 (by first | exact q322 | exact of_decide_eq_true (by first | (with_reducible assumption) | assumption) | (have e_ := (Kd.N_reads' HO_1.out).1; omega))
                    obtain ⟨ua322_0, uc322_0, rfl, ul322_0, ge322_0⟩ := Kd.FK_slice_open hMe322
                    have hv322_0 := hcc322 0 _ rfl
                    rw [Nat.add_zero, show ((Kd.slice 5 (Kd.int .u8))).sz = 1 from rfl, Nat.mul_one] at hv322_0
                    replace hv322_0 := Option.some.inj (hv322_0.symm.trans hx322_0)
                    injection hv322_0 with hva_ hvn_ hvc_
                    rw [hva_] at ge322_0
                    rw [hvc_] at ul322_0
                    have HL322_0 := Aside0.mk (show Kd.V (Kd.int .u8) 5 _ w.heap.size _ _ (rd_L1 t296 x14_3) from Kd.V_mk ul322_0 ge322_0)
                    clear hva_ hvn_ hvc_ ge322_0 ul322_0
                    clear hcc322 hce322
                    have HR322_0 := Aside0.mk hi322_0
                    have HC322_0 := Aside0.mk hl322_0
                    clear hi322_0 hl322_0
                    replace p322 := eq_true p322
                    replace q322 := eq_true q322
                    obtain ⟨Ao47, co47, eo47⟩ := Kd.R_slice HO_301000.out
                    (first | subst eo47 | (injection eo47 with f1_ f2_ f3_; have f4_ := f1_.symm; have f5_ := f3_.symm; clear f1_ f2_ f3_; subst f4_; subst f5_))
                    obtain ⟨Ao48, co48, eo48⟩ := Kd.R_slice HO_301001.out
                    (first | subst eo48 | (injection eo48 with f1_ f2_ f3_; have f4_ := f1_.symm; have f5_ := f3_.symm; clear f1_ f2_ f3_; subst f4_; subst f5_))
                    refine start_ (n := 10) (S := fun w' => w'.cell? ⟨gb300, 0, none⟩ = some (.slice Ao47 x301000_3.length co47) ∧ w'.cell? ⟨gb300, 1, none⟩ = some (.slice Ao48 x301001_3.length co48) ∧ w'.cell? (ad322.add (x14_3).toNat) = some (.slice A322_0 (rd_L1 t296 x14_3).length c322_0)) (ds := [9]) #[false, false, false, false, false, false, false, false, false, false] (by kernel_rfl) rfl rfl ⟨(blk_cell BK300.out 0).trans rfl, (blk_cell BK300.out 1).trans rfl, hx322_0⟩ (fun hHeld => ?_); refine with_tabW customslaw34_JournalSnapshot.tab14 customslaw34_JournalSnapshot.bits14 (fun HT_ HW_ => ?_)
                    generalize wr.drew = w46 at HO_1 HO_301000 HO_301001 BK300 HB HL322_0 HR322_0 hx322_0 hHeld ⊢
                    refine pure_ (i := 1) (N := some 71) (v := ?_) (a' := ?_) #[false, true, false, false, false, false, false, false, false, false] rfl rfl (any_of HT_.out (by kernel_rfl)) (fun _ _ _ h => h) (Or.inl ⟨by rfl, ?_⟩) ?_ ?_
                    rotate_left
                    · intro w'
                      go_simp
                      with_reducible rfl
                    rotate_left
                    · simp only [Act.put, List.setIfInBounds_toArray, List.set_cons_zero, List.set_cons_succ, i64_w, i32_w]
                      rfl
                    refine pure_ (i := 2) (N := some 72) (v := ?_) (a' := ?_) #[false, true, true, false, false, false, false, false, false, false] rfl rfl (any_of HT_.out (by kernel_rfl)) (fun _ _ _ h => h) (Or.inl ⟨by rfl, ?_⟩) ?_ ?_
                    rotate_left
                    · intro w'
                      go_simp
                      with_reducible rfl
                    rotate_left
                    · simp only [Act.put, List.setIfInBounds_toArray, List.set_cons_zero, List.set_cons_succ, i64_w, i32_w]
                      rfl
                    refine pure_ (i := 3) (N := some 73) (v := ?_) (a' := ?_) #[false, true, true, true, false, false, false, false, false, false] rfl rfl (any_of HT_.out (by kernel_rfl)) (fun _ _ _ h => h) (Or.inl ⟨by rfl, ?_⟩) ?_ ?_
                    rotate_left
                    · intro w'
                      go_simp
                      with_reducible rfl
                    rotate_left
                    · simp only [Act.put, List.setIfInBounds_toArray, List.set_cons_zero, List.set_cons_succ, i64_w, i32_w]
                      rfl
                    refine take_ (i := 0) (N := some 70) (v := ?_) (a' := ?_) #[true, true, true, true, false, false, false, false, false, false] rfl rfl (take_ofW HT_.out HW_.out (by kernel_rfl)) (fun _ _ _ h => h) (Or.inl ⟨by rfl, ?_⟩) hHeld ?_ ?_
                    rotate_left
                    · rintro w' ⟨s0, s1, s2⟩
                      go_simp
                      with_reducible rfl
                    rotate_left
                    · simp only [Act.put, List.setIfInBounds_toArray, List.set_cons_zero, List.set_cons_succ, i64_w, i32_w]
                      rfl
                    refine take_ (i := 4) (N := some 74) (v := ?_) (a' := ?_) #[true, true, true, true, true, false, false, false, false, false] rfl rfl (take_ofW HT_.out HW_.out (by kernel_rfl)) (fun _ _ _ h => h) (Or.inl ⟨by rfl, ?_⟩) hHeld ?_ ?_
                    rotate_left
                    · rintro w' ⟨s0, s1, s2⟩
                      go_simp
                      with_reducible rfl
                    rotate_left
                    · simp only [Act.put, List.setIfInBounds_toArray, List.set_cons_zero, List.set_cons_succ, i64_w, i32_w]
                      rfl
                    refine one_ (i := 5) (N := some 75) #[true, true, true, true, true, true, false, false, false, false] rfl rfl (one_of HT_.out (by kernel_rfl)) (by decide) (fun K hK => ?_)
                    refine goes_ Try.func36 (by kernel_rfl) rfl #[.agg #[.slice Ao47 x301000_3.length co47, .slice Ao48 x301001_3.length co48], .slice A322_0 (rd_L1 t296 x14_3).length c322_0] (by rfl) rfl rfl (by (try simp only [List.map_toArray, List.map_cons, List.map_nil]); first | done | rfl | (simp only [List.length_drop, List.length_take]; rfl)) ?_
                    with_reducible refine (journal_Append.calls k3 _ _ x301000_3 _ _ x301001_3 _ _ (rd_L1 t296 x14_3) t323 t326 t329 _ ?side1 ?side2 ?side3 ?side4 ?side5 ?side6 A44.out).mono ?_
                    (case side1 => exact pC (Kd.R_reads' HO_301000.out).2.2)
                    (case side2 => exact (Kd.R_reads' HO_301000.out).2.1)
                    (case side3 => exact pC (Kd.R_reads' HO_301001.out).2.2)
                    (case side4 => exact (Kd.R_reads' HO_301001.out).2.1)
                    (case side5 => exact pC (by exact pC HR322_0.out))
                    (case side6 => exact HC322_0.out)
                    rintro e w49 ⟨v324, v327, rfl, ho0, ho1, hb⟩
                    have HS2_ := (hb.cell (World.block_lt_of_cell? _ _ (hHeld.2.2))).trans (hHeld.2.2)
                    refine ⟨_, rfl, ?_⟩
                    have n0_ := Aside0.mk (Kd.N_mono (Kd.N_told (Kd.N_told (Kd.N_old (by exact pN HO_1.out) hb) (Kd.R_base ho0)) (Kd.R_base ho1)) (fun _ h_ => h_.1))
                    have n1_ := Aside0.mk (Kd.R_mono (Kd.R_told (Kd.R_told (Kd.R_old (by exact pR HO_301000.out) hb) (Kd.R_base ho0)) (Kd.R_base ho1)) (fun _ h_ => h_.1))
                    have n2_ := Aside0.mk (Kd.R_mono (Kd.R_told (Kd.R_told (Kd.R_old (by exact pR HO_301001.out) hb) (Kd.R_base ho0)) (Kd.R_base ho1)) (fun _ h_ => h_.1))
                    have n3_ := Aside0.mk (Kd.V_mono (Kd.V_told (Kd.V_told (Kd.V_old (by exact pV HL322_0.out) hb) (Kd.R_base ho0)) (Kd.R_base ho1)) (fun _ h_ => h_.1))
                    have n4_ := Aside0.mk (Kd.R_lower (Kd.R_new' (Kd.R_new' ho0 (Kd.R_lt (by exact pR HO_301000.out))) (Kd.R_lt (by exact pR HO_301001.out))) (below_size (by exact pB HB.out)))
                    have n5_ := Aside0.mk (Kd.R_lower (Kd.R_new' (Kd.R_new' ho1 (Kd.R_lt (by exact pR HO_301000.out))) (Kd.R_lt (by exact pR HO_301001.out))) (below_size (by exact pB HB.out)))
                    have n6_ := Aside0.mk (blk_below (g := gb300) (o := .cells #[.slice Ao47 x301000_3.length co47, .slice Ao48 x301001_3.length co48] 24 (0, 0)) (by exact pK BK300.out) hb)
                    have n7_ := Aside0.mk (Kd.C_below (by exact pC HR322_0.out) hb)
                    have n8_ := Aside0.mk (below_step (by exact pB HB.out) hb)
                    clear HO_1
                    clear HO_301000
                    clear HO_301001
                    clear HL322_0
                    clear BK300
                    clear HR322_0
                    clear HB
                    have HO_1 := n0_
                    have HO_301000 := n1_
                    have HO_301001 := n2_
                    have HL322_0 := n3_
                    have HO325 := n4_
                    have HO328 := n5_
                    have BK300 := n6_
                    have HR322_0 := n7_
                    have HB := n8_
                    clear n0_ n1_ n2_ n3_ n4_ n5_ n6_ n7_ n8_
                    (try clear hb)
                    (try clear hb2)
                    (try clear hk)
                    (try clear hi)
                    (try clear ho0)
                    (try clear ho1)
                    obtain ⟨Ao50, co50, eo50⟩ := Kd.R_slice HO325.out
                    (first | subst eo50 | (injection eo50 with f1_ f2_ f3_; have f4_ := f1_.symm; have f5_ := f3_.symm; clear f1_ f2_ f3_; subst f4_; subst f5_))
                    obtain ⟨Ao52, co52, eo52⟩ := Kd.R_slice HO328.out
                    (first | subst eo52 | (injection eo52 with f1_ f2_ f3_; have f4_ := f1_.symm; have f5_ := f3_.symm; clear f1_ f2_ f3_; subst f4_; subst f5_))
                    refine hK.out _ _ ⟨(blk_cell BK300.out 0).trans rfl, (blk_cell BK300.out 1).trans rfl, HS2_⟩ (fun hHeld => ?_)
                    clear hK K
                    refine norm_ (a' := ?_) ?_ ?_
                    rotate_left
                    · show Act.put _ (some 75) _ = _
                      simp only [Act.put, List.setIfInBounds_toArray, List.set_cons_zero, List.set_cons_succ, i64_w, i32_w]
                      rfl
                    refine pure_ (i := 6) (N := some 69) (v := ?_) (a' := ?_) #[true, true, true, true, true, true, true, false, false, false] rfl rfl (any_of HT_.out (by kernel_rfl)) (fun _ _ _ h => h) (Or.inl ⟨by rfl, ?_⟩) ?_ ?_
                    rotate_left
                    · intro w'
                      go_simp
                      with_reducible rfl
                    rotate_left
                    · simp only [Act.put, List.setIfInBounds_toArray, List.set_cons_zero, List.set_cons_succ, i64_w, i32_w]
                      rfl
                    refine pure_ (i := 7) (N := some 76) (v := ?_) (a' := ?_) #[true, true, true, true, true, true, true, true, false, false] rfl rfl (any_of HT_.out (by kernel_rfl)) (fun _ _ _ h => h) (Or.inl ⟨by rfl, ?_⟩) ?_ ?_
                    rotate_left
                    · intro w'
                      go_simp
                      with_reducible rfl
                    rotate_left
                    · simp only [Act.put, List.setIfInBounds_toArray, List.set_cons_zero, List.set_cons_succ, i64_w, i32_w]
                      rfl
                    refine pure_ (i := 8) (N := some 77) (v := ?_) (a' := ?_) #[true, true, true, true, true, true, true, true, true, false] rfl rfl (any_of HT_.out (by kernel_rfl)) (fun _ _ _ h => h) (Or.inl ⟨by rfl, ?_⟩) ?_ ?_
                    rotate_left
                    · intro w'
                      go_simp
                      with_reducible rfl
                    rotate_left
                    · simp only [Act.put, List.setIfInBounds_toArray, List.set_cons_zero, List.set_cons_succ, i64_w, i32_w]
                      rfl
                    refine last_ (i := 9) (N := none) #[true, true, true, true, true, true, true, true, true, true] rfl rfl (one_of HT_.out (by kernel_rfl)) (by decide) (fun K hK => ?_)
                    have hs51 : w49.cell? ⟨gb300, 0, none⟩ = some (.slice Ao47 x301000_3.length co47) := (blk_cell BK300.out 0).trans rfl
                    have hfs51 := blk_frozen BK300.out 0
                    have hs53 : w49.cell? ⟨gb300, 1, none⟩ = some (.slice Ao48 x301001_3.length co48) := (blk_cell BK300.out 1).trans rfl
                    have hfs53 := blk_frozen BK300.out 1
                    refine skip_ (w1 := ?_) (by rfl) rfl ?_ ?_
                    rotate_left
                    · go_simp
                      rfl
                    refine hK.out _ _ ?_
                    clear hK K
                    refine done_ (done_of HT_.out (by kernel_rfl)) ?_
                    try go_wp2
                    go_roundg k3
                    case measure => have := HJ7.out; have := HK2.out; have := HK3.out; omega
                    case rel => exact ⟨(wrap64 (x14_3 + 1)), (t323), (t326), (.slice Ao50 t323.length co50), (.slice Ao52 t326.length co52), (by first | rfl | (simp; done) | (simp [*]; done)), H', ⟨by have := HJ7.out; have := HK2.out; have := HK3.out; omega⟩, ⟨by (with_reducible repeat (first | apply Kd.N_alloc | apply Kd.N_drewN | apply Kd.N_drew)); exact Kd.N_mono (Kd.N_far (p := ⟨gb300, 1, none⟩) (Kd.N_far (p := ⟨gb300, 0, none⟩) (Kd.N_mono HO_1.out (fun k_ hk => (⟨hk, hk.1.1.2.2⟩ : _ ∧ k_ ≠ gb300))) (fun _ hk => hk.2) (.slice Ao50 t323.length co50)) (fun _ hk => hk.2) (.slice Ao52 t326.length co52)) (fun _ hk => ⟨hk.1.1.2, ⟨hk.1.2, hk.1.1.1.2.2⟩⟩)⟩, ⟨by (with_reducible repeat (first | apply Kd.R_alloc | apply Kd.R_drewN | apply Kd.R_drew)); exact Kd.R_mono (Kd.R_far (p := ⟨gb300, 1, none⟩) (Kd.R_far (p := ⟨gb300, 0, none⟩) (Kd.R_types HO325.out BK300.out (by decide)) (fun _ hk => hk.2) (.slice Ao50 t323.length co50)) (fun _ hk => hk.2) (.slice Ao52 t326.length co52)) (fun _ hk => hk.1.1.1)⟩, ⟨by (with_reducible repeat (first | apply Kd.R_alloc | apply Kd.R_drewN | apply Kd.R_drew)); exact Kd.R_mono (Kd.R_far (p := ⟨gb300, 1, none⟩) (Kd.R_far (p := ⟨gb300, 0, none⟩) (Kd.R_types HO328.out BK300.out (by decide)) (fun _ hk => hk.2) (.slice Ao50 t323.length co50)) (fun _ hk => hk.2) (.slice Ao52 t326.length co52)) (fun _ hk => hk.1.1.1)⟩, ⟨by (with_reducible repeat (first | refine blk_drewN ?_ _ | refine blk_drew ?_ | refine blk_alloc ?_ _)); refine blk_put (cs := #[.slice Ao50 t323.length co50, .slice Ao48 x301001_3.length co48]) ?_ 1 _ rfl; (with_reducible repeat (first | refine blk_drewN ?_ _ | refine blk_drew ?_ | refine blk_alloc ?_ _)); refine blk_put (cs := #[.slice Ao47 x301000_3.length co47, .slice Ao48 x301001_3.length co48]) ?_ 0 _ rfl; (with_reducible repeat (first | refine blk_drewN ?_ _ | refine blk_drew ?_ | refine blk_alloc ?_ _)); exact BK300.out⟩, ⟨by repeat (first | (with_reducible first | exact HB.out | apply below_alloc | apply pw_below_drewN | apply below_drew1 | refine below_set ?_ GE300.out) | exact HB.out)⟩⟩
                  · rw [if_neg c42] at H
                    have c42b0 : decide (x14_3 < (t296.length : Int)) = false := decide_eq_false c42
                    clear c42
                    replace H := Option.bind_eq_some_iff.mp H
                    obtain ⟨⟨t330, t333, t336⟩, A540, H⟩ := H
                    replace H : ((customsmade_Within.f a4 (wrap64 ((l3.length : Int) + 9))).bind fun t338 => ((disk_Crash.f t330 t333 t338).bind fun bt339 => ((journal_Open.f k3 bt339.1 bt339.2).bind fun bt346 => ((disk_Sync.f t330 t333).bind fun bt360 => ((journal_Open.f k3 bt360.1 bt360.2).bind fun bt366 => (if t315 = 0 then (if t336 = 0 then (if bt346.2.2.2.1 = true then ((customsref33_SameBytes.f bt346.2.2.1 l2).bind fun t380 => (if t380 = true then ((customsref33_SameRecords.f k3 bt346.2.2.2.2 t296).bind fun t381 => (if t381 = true then (if bt366.2.2.2.1 = true then ((customsref33_SameBytes.f bt366.2.2.1 l3).bind fun t382 => (if t382 = true then (if (bt366.2.2.2.2.length : Int) = 0 then ((customslaw34_awake.f k3).bind fun t383 => (some t383)) else (some false)) else (some false))) else (some false)) else (some false))) else (some false))) else (some false)) else (some false)) else (some false))))))) = some true := H
                    have A54 := Aside0.mk A540
                    clear A540
                    replace H := Option.bind_eq_some_iff.mp H
                    obtain ⟨t338, A550, H⟩ := H
                    replace H : ((disk_Crash.f t330 t333 t338).bind fun bt339 => ((journal_Open.f k3 bt339.1 bt339.2).bind fun bt346 => ((disk_Sync.f t330 t333).bind fun bt360 => ((journal_Open.f k3 bt360.1 bt360.2).bind fun bt366 => (if t315 = 0 then (if t336 = 0 then (if bt346.2.2.2.1 = true then ((customsref33_SameBytes.f bt346.2.2.1 l2).bind fun t380 => (if t380 = true then ((customsref33_SameRecords.f k3 bt346.2.2.2.2 t296).bind fun t381 => (if t381 = true then (if bt366.2.2.2.1 = true then ((customsref33_SameBytes.f bt366.2.2.1 l3).bind fun t382 => (if t382 = true then (if (bt366.2.2.2.2.length : Int) = 0 then ((customslaw34_awake.f k3).bind fun t383 => (some t383)) else (some false)) else (some false))) else (some false)) else (some false))) else (some false))) else (some false)) else (some false)) else (some false)))))) = some true := H
                    have A55 := Aside0.mk A550
                    clear A550
                    replace H := Option.bind_eq_some_iff.mp H
                    obtain ⟨⟨t339, t342⟩, A560, H⟩ := H
                    replace H : ((journal_Open.f k3 t339 t342).bind fun bt346 => ((disk_Sync.f t330 t333).bind fun bt360 => ((journal_Open.f k3 bt360.1 bt360.2).bind fun bt366 => (if t315 = 0 then (if t336 = 0 then (if bt346.2.2.2.1 = true then ((customsref33_SameBytes.f bt346.2.2.1 l2).bind fun t380 => (if t380 = true then ((customsref33_SameRecords.f k3 bt346.2.2.2.2 t296).bind fun t381 => (if t381 = true then (if bt366.2.2.2.1 = true then ((customsref33_SameBytes.f bt366.2.2.1 l3).bind fun t382 => (if t382 = true then (if (bt366.2.2.2.2.length : Int) = 0 then ((customslaw34_awake.f k3).bind fun t383 => (some t383)) else (some false)) else (some false))) else (some false)) else (some false))) else (some false))) else (some false)) else (some false)) else (some false))))) = some true := H
                    have A56 := Aside0.mk A560
                    clear A560
                    replace H := Option.bind_eq_some_iff.mp H
                    obtain ⟨⟨t346, t349, t352, t355, t356⟩, A570, H⟩ := H
                    replace H : ((disk_Sync.f t330 t333).bind fun bt360 => ((journal_Open.f k3 bt360.1 bt360.2).bind fun bt366 => (if t315 = 0 then (if t336 = 0 then (if t355 = true then ((customsref33_SameBytes.f t352 l2).bind fun t380 => (if t380 = true then ((customsref33_SameRecords.f k3 t356 t296).bind fun t381 => (if t381 = true then (if bt366.2.2.2.1 = true then ((customsref33_SameBytes.f bt366.2.2.1 l3).bind fun t382 => (if t382 = true then (if (bt366.2.2.2.2.length : Int) = 0 then ((customslaw34_awake.f k3).bind fun t383 => (some t383)) else (some false)) else (some false))) else (some false)) else (some false))) else (some false))) else (some false)) else (some false)) else (some false)))) = some true := H
                    have A57 := Aside0.mk A570
                    clear A570
                    replace H := Option.bind_eq_some_iff.mp H
                    obtain ⟨⟨t360, t363⟩, A580, H⟩ := H
                    replace H : ((journal_Open.f k3 t360 t363).bind fun bt366 => (if t315 = 0 then (if t336 = 0 then (if t355 = true then ((customsref33_SameBytes.f t352 l2).bind fun t380 => (if t380 = true then ((customsref33_SameRecords.f k3 t356 t296).bind fun t381 => (if t381 = true then (if bt366.2.2.2.1 = true then ((customsref33_SameBytes.f bt366.2.2.1 l3).bind fun t382 => (if t382 = true then (if (bt366.2.2.2.2.length : Int) = 0 then ((customslaw34_awake.f k3).bind fun t383 => (some t383)) else (some false)) else (some false))) else (some false)) else (some false))) else (some false))) else (some false)) else (some false)) else (some false))) = some true := H
                    have A58 := Aside0.mk A580
                    clear A580
                    replace H := Option.bind_eq_some_iff.mp H
                    obtain ⟨⟨t366, t369, t372, t375, t376⟩, A590, H⟩ := H
                    replace H : (if t315 = 0 then (if t336 = 0 then (if t355 = true then ((customsref33_SameBytes.f t352 l2).bind fun t380 => (if t380 = true then ((customsref33_SameRecords.f k3 t356 t296).bind fun t381 => (if t381 = true then (if t375 = true then ((customsref33_SameBytes.f t372 l3).bind fun t382 => (if t382 = true then (if (t376.length : Int) = 0 then ((customslaw34_awake.f k3).bind fun t383 => (some t383)) else (some false)) else (some false))) else (some false)) else (some false))) else (some false))) else (some false)) else (some false)) else (some false)) = some true := H
                    have A59 := Aside0.mk A590
                    clear A590
                    have c60 : t315 = 0 := by
                      refine Classical.byContradiction fun c60 => ?_
                      rw [if_neg c60] at H
                      exact absurd (Option.some.inj H) (by simp)
                    rw [if_pos c60] at H
                    have c60b0 : (t315 == 0) = true := beq_iff_eq.mpr c60
                    have c60b1 : (t315 != 0) = false := bne_eq_false_iff_eq.mpr c60
                    clear c60
                    have c61 : t336 = 0 := by
                      refine Classical.byContradiction fun c61 => ?_
                      rw [if_neg c61] at H
                      exact absurd (Option.some.inj H) (by simp)
                    rw [if_pos c61] at H
                    have c61b0 : (t336 == 0) = true := beq_iff_eq.mpr c61
                    have c61b1 : (t336 != 0) = false := bne_eq_false_iff_eq.mpr c61
                    clear c61
                    have c62 : t355 = true := by
                      refine Classical.byContradiction fun c62 => ?_
                      rw [if_neg c62] at H
                      exact absurd (Option.some.inj H) (by simp)
                    subst c62
                    have H1 : ((customsref33_SameBytes.f t352 l2).bind fun t380 => (if t380 = true then ((customsref33_SameRecords.f k3 t356 t296).bind fun t381 => (if t381 = true then (if t375 = true then ((customsref33_SameBytes.f t372 l3).bind fun t382 => (if t382 = true then (if (t376.length : Int) = 0 then ((customslaw34_awake.f k3).bind fun t383 => (some t383)) else (some false)) else (some false))) else (some false)) else (some false))) else (some false))) = some true := by rw [if_pos rfl] at H; exact H
                    clear H
                    have H := H1
                    clear H1
                    replace H := Option.bind_eq_some_iff.mp H
                    obtain ⟨t380, A630, H⟩ := H
                    replace H : (if t380 = true then ((customsref33_SameRecords.f k3 t356 t296).bind fun t381 => (if t381 = true then (if t375 = true then ((customsref33_SameBytes.f t372 l3).bind fun t382 => (if t382 = true then (if (t376.length : Int) = 0 then ((customslaw34_awake.f k3).bind fun t383 => (some t383)) else (some false)) else (some false))) else (some false)) else (some false))) else (some false)) = some true := H
                    have A63 := Aside0.mk A630
                    clear A630
                    have c64 : t380 = true := by
                      refine Classical.byContradiction fun c64 => ?_
                      rw [if_neg c64] at H
                      exact absurd (Option.some.inj H) (by simp)
                    subst c64
                    have H1 : ((customsref33_SameRecords.f k3 t356 t296).bind fun t381 => (if t381 = true then (if t375 = true then ((customsref33_SameBytes.f t372 l3).bind fun t382 => (if t382 = true then (if (t376.length : Int) = 0 then ((customslaw34_awake.f k3).bind fun t383 => (some t383)) else (some false)) else (some false))) else (some false)) else (some false))) = some true := by rw [if_pos rfl] at H; exact H
                    clear H
                    have H := H1
                    clear H1
                    replace H := Option.bind_eq_some_iff.mp H
                    obtain ⟨t381, A650, H⟩ := H
                    replace H : (if t381 = true then (if t375 = true then ((customsref33_SameBytes.f t372 l3).bind fun t382 => (if t382 = true then (if (t376.length : Int) = 0 then ((customslaw34_awake.f k3).bind fun t383 => (some t383)) else (some false)) else (some false))) else (some false)) else (some false)) = some true := H
                    have A65 := Aside0.mk A650
                    clear A650
                    have c66 : t381 = true := by
                      refine Classical.byContradiction fun c66 => ?_
                      rw [if_neg c66] at H
                      exact absurd (Option.some.inj H) (by simp)
                    subst c66
                    have H1 : (if t375 = true then ((customsref33_SameBytes.f t372 l3).bind fun t382 => (if t382 = true then (if (t376.length : Int) = 0 then ((customslaw34_awake.f k3).bind fun t383 => (some t383)) else (some false)) else (some false))) else (some false)) = some true := by rw [if_pos rfl] at H; exact H
                    clear H
                    have H := H1
                    clear H1
                    have c67 : t375 = true := by
                      refine Classical.byContradiction fun c67 => ?_
                      rw [if_neg c67] at H
                      exact absurd (Option.some.inj H) (by simp)
                    subst c67
                    have H1 : ((customsref33_SameBytes.f t372 l3).bind fun t382 => (if t382 = true then (if (t376.length : Int) = 0 then ((customslaw34_awake.f k3).bind fun t383 => (some t383)) else (some false)) else (some false))) = some true := by rw [if_pos rfl] at H; exact H
                    clear H
                    have H := H1
                    clear H1
                    replace H := Option.bind_eq_some_iff.mp H
                    obtain ⟨t382, A680, H⟩ := H
                    replace H : (if t382 = true then (if (t376.length : Int) = 0 then ((customslaw34_awake.f k3).bind fun t383 => (some t383)) else (some false)) else (some false)) = some true := H
                    have A68 := Aside0.mk A680
                    clear A680
                    have c69 : t382 = true := by
                      refine Classical.byContradiction fun c69 => ?_
                      rw [if_neg c69] at H
                      exact absurd (Option.some.inj H) (by simp)
                    subst c69
                    have H1 : (if (t376.length : Int) = 0 then ((customslaw34_awake.f k3).bind fun t383 => (some t383)) else (some false)) = some true := by rw [if_pos rfl] at H; exact H
                    clear H
                    have H := H1
                    clear H1
                    have c70 : (t376.length : Int) = 0 := by
                      refine Classical.byContradiction fun c70 => ?_
                      rw [if_neg c70] at H
                      exact absurd (Option.some.inj H) (by simp)
                    rw [if_pos c70] at H
                    have c70b0 : ((t376.length : Int) == 0) = true := beq_iff_eq.mpr c70
                    have c70b1 : ((t376.length : Int) != 0) = false := bne_eq_false_iff_eq.mpr c70
                    clear c70
                    replace H := Option.bind_eq_some_iff.mp H
                    obtain ⟨t383, A710, H⟩ := H
                    replace H : (some t383) = some true := H
                    have A71 := Aside0.mk A710
                    clear A710
                    have HTR := Aside0.mk (Option.some.inj H)
                    clear H
                    obtain ⟨Ao72, co72, eo72⟩ := Kd.N_slice HO_1.out
                    subst eo72
                    have hcz73_0 : wr.cell? ⟨gb300, 0, none⟩ = some (u301000) := (blk_cell BK300.out 0).trans rfl
                    have hcz73_1 : wr.cell? ⟨gb300, 1, none⟩ = some (u301001) := (blk_cell BK300.out 1).trans rfl
                    have hfz73_0 := blk_frozen BK300.out 0
                    have hfz73_1 := blk_frozen BK300.out 1
                    obtain ⟨Ao74, co74, eo74⟩ := Kd.R_slice HO_301000.out
                    subst eo74
                    obtain ⟨Ao75, co75, eo75⟩ := Kd.R_slice HO_301001.out
                    subst eo75
                    try go_wp2_with (first | ((with_reducible refine gate_callee (f := 35) rfl ?_); refine goesL_ (some 82) rfl rfl Try.func35 (by kernel_rfl) rfl #[.agg #[.slice Ao74 x301000_3.length co74, .slice Ao75 x301001_3.length co75], .agg #[.int .i64 2, .slice A3 l3.length c3]] rfl (by (try simp only [List.map_toArray, List.map_cons, List.map_nil]); first | done | rfl | (simp only [List.length_drop, List.length_take]; rfl)) ?_; (with_reducible refine (journal_Put.calls k3 _ _ x301000_3 _ _ x301001_3 2 _ _ l3 t330 t333 t336 _ ?side1 ?side2 ?side3 ?side4 ?side5 ?side6 A54.out).mono ?_); (case side1 => exact pC (Kd.R_reads' HO_301000.out).2.2); (case side2 => exact (Kd.R_reads' HO_301000.out).2.1); (case side3 => exact pC (Kd.R_reads' HO_301001.out).2.2); (case side4 => exact (Kd.R_reads' HO_301001.out).2.1); (case side5 => exact pC (Kd.C_below HR3.out HB.out)); (case side6 => exact HC3.out); rintro e w76 ⟨v331, v334, rfl, ho0, ho1, hb⟩; refine ⟨_, rfl, ?_⟩; have n0_ := Aside0.mk (Kd.N_mono (Kd.N_told (Kd.N_told (Kd.N_old (by exact pN HO_1.out) hb) (Kd.R_base ho0)) (Kd.R_base ho1)) (fun _ h_ => h_.1)); have n1_ := Aside0.mk (Kd.R_mono (Kd.R_told (Kd.R_told (Kd.R_old (by exact pR HO_301000.out) hb) (Kd.R_base ho0)) (Kd.R_base ho1)) (fun _ h_ => h_.1)); have n2_ := Aside0.mk (Kd.R_mono (Kd.R_told (Kd.R_told (Kd.R_old (by exact pR HO_301001.out) hb) (Kd.R_base ho0)) (Kd.R_base ho1)) (fun _ h_ => h_.1)); have n3_ := Aside0.mk (Kd.R_lower (Kd.R_new' (Kd.R_new' ho0 (Kd.R_lt (by exact pR HO_301000.out))) (Kd.R_lt (by exact pR HO_301001.out))) (below_size (by exact pB HB.out))); have n4_ := Aside0.mk (Kd.R_lower (Kd.R_new' (Kd.R_new' ho1 (Kd.R_lt (by exact pR HO_301000.out))) (Kd.R_lt (by exact pR HO_301001.out))) (below_size (by exact pB HB.out))); have n5_ := Aside0.mk (below_step (by exact pB HB.out) hb); clear HO_1; clear HO_301000; clear HO_301001; clear HB; have HO_1 := n0_; have HO_301000 := n1_; have HO_301001 := n2_; have HO332 := n3_; have HO335 := n4_; have HB := n5_; clear n0_ n1_ n2_ n3_ n4_ n5_; (try clear hb); (try clear hb2); (try clear hk); (try clear hi); (try clear ho0); (try clear ho1)) | ((with_reducible refine gate_dst (N := 15) rfl ?_); (try (refine gate_guard (by rfl) ?_; dsimp only)); refine box_event ?hg (N := 15) ?hd (cs := #[.slice none 0 0, .slice none 0 0]) (t := 24) ?hr ?_; (case hd => rfl); (case hg => rfl); (case hr => first | (go_simp; done) | (go_simp; rfl)); intro gb337 hg w77 hbox hb; have n0_ := Aside0.mk (Kd.N_below (Kd.N_elderB (by exact pN HO_1.out) gb337 (Nat.le_of_eq hg.symm)) hb); have n1_ := Aside0.mk (Kd.R_below (by exact pR HO332.out) hb); have n2_ := Aside0.mk (Kd.R_below (by exact pR HO335.out) hb); have n3_ := Aside0.mk (below_step (by exact pB HB.out) hb); have n4_ := Aside0.mk (hbox); have n5_ := Aside0.mk ((by rw [hg]; exact (below_size (by exact pB HB.out)) : w.heap.size ≤ gb337)); have n6_ := Aside0.mk ((by rw [hg]; exact (below_size (by exact pB HB.out)) : w.heap.size ≤ gb337)); clear HO_1; clear HO332; clear HO335; clear HB; have HO_1 := n0_; have HO332 := n1_; have HO335 := n2_; have HB := n3_; have BK337 := n4_; have GW337 := n5_; have GE337 := n6_; clear n0_ n1_ n2_ n3_ n4_ n5_ n6_; clear hb hbox hg; obtain ⟨Ao78, co78, eo78⟩ := Kd.R_slice HO332.out; subst eo78; have hcz79_0 : w77.cell? ⟨gb337, 0, none⟩ = some (.slice none 0 0) := (blk_cell BK337.out 0).trans rfl; have hcz79_1 : w77.cell? ⟨gb337, 1, none⟩ = some (.slice none 0 0) := (blk_cell BK337.out 1).trans rfl; have hfz79_0 := blk_frozen BK337.out 0; have hfz79_1 := blk_frozen BK337.out 1; obtain ⟨Ao80, co80, eo80⟩ := Kd.R_slice HO335.out; subst eo80))
                    have n0_ : Aside0 (Kd.N (Kd.slice 5 (Kd.int .u8)) 22 ((w77.setCell ⟨gb337, 0, none⟩ (.slice Ao78 t330.length co78)).setCell ⟨gb337, 1, none⟩ (.slice Ao80 t333.length co80)) w.heap.size (fun k_ => some k_ ≠ (.slice Ao78 t330.length co78 : Value).ownBlock ∧ some k_ ≠ (.slice Ao80 t333.length co80 : Value).ownBlock ∧ k_ ≠ gb300 ∧ k_ ≠ gb337) (.slice Ao72 t296.length co72) t296) := ⟨by (with_reducible repeat (first | apply Kd.N_alloc | apply Kd.N_drewN | apply Kd.N_drew)); exact Kd.N_mono (Kd.N_far (p := ⟨gb337, 1, none⟩) (Kd.N_far (p := ⟨gb337, 0, none⟩) (Kd.N_mono HO_1.out (fun k_ hk => (⟨hk, hk.2⟩ : _ ∧ k_ ≠ gb337))) (fun _ hk => hk.2) (.slice Ao78 t330.length co78)) (fun _ hk => hk.2) (.slice Ao80 t333.length co80)) (fun _ hk => ⟨hk.1.1.1.2, ⟨hk.1.1.2, ⟨hk.1.1.1.1.2.2, hk.1.2⟩⟩⟩)⟩
                    have n1_ : Aside0 (Kd.R (Kd.int .u8) 5 ((w77.setCell ⟨gb337, 0, none⟩ (.slice Ao78 t330.length co78)).setCell ⟨gb337, 1, none⟩ (.slice Ao80 t333.length co80)) w.heap.size (fun k_ => some k_ ≠ (.slice Ao80 t333.length co80 : Value).ownBlock) (.slice Ao78 t330.length co78) t330) := ⟨by (with_reducible repeat (first | apply Kd.R_alloc | apply Kd.R_drewN | apply Kd.R_drew)); exact Kd.R_mono (Kd.R_far (p := ⟨gb337, 1, none⟩) (Kd.R_far (p := ⟨gb337, 0, none⟩) (Kd.R_types HO332.out BK337.out (by decide)) (fun _ hk => hk.2) (.slice Ao78 t330.length co78)) (fun _ hk => hk.2) (.slice Ao80 t333.length co80)) (fun _ hk => hk.1.1.1)⟩
                    have n2_ : Aside0 (Kd.R (Kd.int .u8) 5 ((w77.setCell ⟨gb337, 0, none⟩ (.slice Ao78 t330.length co78)).setCell ⟨gb337, 1, none⟩ (.slice Ao80 t333.length co80)) w.heap.size (fun k_ => some k_ ≠ (.slice Ao78 t330.length co78 : Value).ownBlock) (.slice Ao80 t333.length co80) t333) := ⟨by (with_reducible repeat (first | apply Kd.R_alloc | apply Kd.R_drewN | apply Kd.R_drew)); exact Kd.R_mono (Kd.R_far (p := ⟨gb337, 1, none⟩) (Kd.R_far (p := ⟨gb337, 0, none⟩) (Kd.R_types HO335.out BK337.out (by decide)) (fun _ hk => hk.2) (.slice Ao78 t330.length co78)) (fun _ hk => hk.2) (.slice Ao80 t333.length co80)) (fun _ hk => hk.1.1.1)⟩
                    have n3_ : Aside0 (((w77.setCell ⟨gb337, 0, none⟩ (.slice Ao78 t330.length co78)).setCell ⟨gb337, 1, none⟩ (.slice Ao80 t333.length co80)).heap[gb337]? = some (.cells #[.slice Ao78 t330.length co78, .slice Ao80 t333.length co80] 24 (0, 0))) := ⟨by (with_reducible repeat (first | refine blk_drewN ?_ _ | refine blk_drew ?_ | refine blk_alloc ?_ _)); refine blk_put (cs := #[.slice Ao78 t330.length co78, .slice none 0 0]) ?_ 1 _ rfl; (with_reducible repeat (first | refine blk_drewN ?_ _ | refine blk_drew ?_ | refine blk_alloc ?_ _)); refine blk_put (cs := #[.slice none 0 0, .slice none 0 0]) ?_ 0 _ rfl; (with_reducible repeat (first | refine blk_drewN ?_ _ | refine blk_drew ?_ | refine blk_alloc ?_ _)); exact BK337.out⟩
                    have n4_ : Aside0 (Below w.heap.size w ((w77.setCell ⟨gb337, 0, none⟩ (.slice Ao78 t330.length co78)).setCell ⟨gb337, 1, none⟩ (.slice Ao80 t333.length co80))) := ⟨by repeat (first | (with_reducible first | exact HB.out | apply below_alloc | apply pw_below_drewN | apply below_drew1 | refine below_set ?_ GE337.out) | exact HB.out)⟩
                    (try clear HO_1)
                    (try clear HO332)
                    (try clear HO335)
                    (try clear BK337)
                    (try clear HB)
                    generalize ((w77.setCell ⟨gb337, 0, none⟩ (.slice Ao78 t330.length co78)).setCell ⟨gb337, 1, none⟩ (.slice Ao80 t333.length co80)) = w81 at n0_ n1_ n2_ n3_ n4_ ⊢
                    have HO_1 := n0_
                    have HO332 := n1_
                    have HO335 := n2_
                    have BK337 := n3_
                    have HB := n4_
                    clear n0_ n1_ n2_ n3_ n4_
                    have n0_ := Aside0.mk (Kd.N_drew HO_1.out)
                    have n1_ := Aside0.mk (Kd.R_drew HO332.out)
                    have n2_ := Aside0.mk (Kd.R_drew HO335.out)
                    have n3_ := Aside0.mk (blk_drew BK337.out)
                    have n4_ := Aside0.mk (below_drew1 HB.out)
                    clear HO_1
                    clear HO332
                    clear HO335
                    clear BK337
                    clear HB
                    have HO_1 := n0_
                    have HO332 := n1_
                    have HO335 := n2_
                    have BK337 := n3_
                    have HB := n4_
                    clear n0_ n1_ n2_ n3_ n4_
                    refine start_ (n := 9) (S := fun w' => w'.cell? ⟨gb337, 0, none⟩ = some (.slice Ao78 t330.length co78) ∧ w'.cell? ⟨gb337, 1, none⟩ = some (.slice Ao80 t333.length co80)) (ds := []) #[false, false, false, false, false, false, false, false, false] (by kernel_rfl) rfl rfl ⟨(blk_cell BK337.out 0).trans rfl, (blk_cell BK337.out 1).trans rfl⟩ (fun hHeld => ?_); refine with_tabW customslaw34_JournalSnapshot.tab16 customslaw34_JournalSnapshot.bits16 (fun HT_ HW_ => ?_)
                    generalize w81.drew = w82 at HO_1 HO332 HO335 BK337 HB hHeld ⊢
                    refine pure_ (i := 1) (N := some 86) (v := ?_) (a' := ?_) #[false, true, false, false, false, false, false, false, false] rfl rfl (any_of HT_.out (by kernel_rfl)) (fun _ _ _ h => h) (Or.inl ⟨by rfl, ?_⟩) ?_ ?_
                    rotate_left
                    · intro w'
                      go_simp
                      with_reducible rfl
                    rotate_left
                    · simp only [Act.put, List.setIfInBounds_toArray, List.set_cons_zero, List.set_cons_succ, i64_w, i32_w]
                      rfl
                    refine pure_ (i := 2) (N := some 87) (v := ?_) (a' := ?_) #[false, true, true, false, false, false, false, false, false] rfl rfl (any_of HT_.out (by kernel_rfl)) (fun _ _ _ h => h) (Or.inl ⟨by rfl, ?_⟩) ?_ ?_
                    rotate_left
                    · intro w'
                      go_simp
                      with_reducible rfl
                    rotate_left
                    · simp only [Act.put, List.setIfInBounds_toArray, List.set_cons_zero, List.set_cons_succ, i64_w, i32_w]
                      rfl
                    refine pure_ (i := 3) (N := some 88) (v := ?_) (a' := ?_) #[false, true, true, true, false, false, false, false, false] rfl rfl (any_of HT_.out (by kernel_rfl)) (fun _ _ _ h => h) (Or.inl ⟨by rfl, ?_⟩) ?_ ?_
                    rotate_left
                    · intro w'
                      go_simp
                      with_reducible rfl
                    rotate_left
                    · simp only [Act.put, List.setIfInBounds_toArray, List.set_cons_zero, List.set_cons_succ, i64_w, i32_w]
                      rfl
                    refine pure_ (i := 4) (N := some 89) (v := ?_) (a' := ?_) #[false, true, true, true, true, false, false, false, false] rfl rfl (any_of HT_.out (by kernel_rfl)) (fun _ _ _ h => h) (Or.inl ⟨by rfl, ?_⟩) ?_ ?_
                    rotate_left
                    · intro w'
                      go_simp
                      with_reducible rfl
                    rotate_left
                    · simp only [Act.put, List.setIfInBounds_toArray, List.set_cons_zero, List.set_cons_succ, i64_w, i32_w]
                      rfl
                    refine take_ (i := 0) (N := some 85) (v := ?_) (a' := ?_) #[true, true, true, true, true, false, false, false, false] rfl rfl (take_ofW HT_.out HW_.out (by kernel_rfl)) (fun _ _ _ h => h) (Or.inl ⟨by rfl, ?_⟩) hHeld ?_ ?_
                    rotate_left
                    · rintro w' ⟨s0, s1⟩
                      go_simp
                      with_reducible rfl
                    rotate_left
                    · simp only [Act.put, List.setIfInBounds_toArray, List.set_cons_zero, List.set_cons_succ, i64_w, i32_w]
                      rfl
                    refine join_ (σ := Value × Value × Nat) 1 #[true, true, true, true, true, true, true, true, false] (fun s_ => [(90, .int .i64 t338), (91, .agg #[s_.1, s_.2.1]), (17, .pointer (some ⟨s_.2.2, 0, none⟩))]) (fun s_ w' => (w'.cell? ⟨gb337, 0, none⟩ = some (.slice Ao78 t330.length co78) ∧ w'.cell? ⟨gb337, 1, none⟩ = some (.slice Ao80 t333.length co80)) ∧ (Kd.R (Kd.int .u8) 5 w' w.heap.size (fun k_ => some k_ ≠ (.slice Ao80 t333.length co80 : Value).ownBlock ∧ some k_ ≠ (s_.1 : Value).ownBlock ∧ some k_ ≠ (s_.2.1 : Value).ownBlock) (.slice Ao78 t330.length co78) t330) ∧ (Kd.R (Kd.int .u8) 5 w' w.heap.size (fun k_ => some k_ ≠ (.slice Ao78 t330.length co78 : Value).ownBlock ∧ some k_ ≠ (s_.1 : Value).ownBlock ∧ some k_ ≠ (s_.2.1 : Value).ownBlock) (.slice Ao80 t333.length co80) t333) ∧ (Kd.R (Kd.int .u8) 5 w' w.heap.size (fun k_ => some k_ ≠ (.slice Ao78 t330.length co78 : Value).ownBlock ∧ some k_ ≠ (.slice Ao80 t333.length co80 : Value).ownBlock ∧ some k_ ≠ (s_.2.1 : Value).ownBlock) s_.1 t339) ∧ (Kd.R (Kd.int .u8) 5 w' w.heap.size (fun k_ => some k_ ≠ (.slice Ao78 t330.length co78 : Value).ownBlock ∧ some k_ ≠ (.slice Ao80 t333.length co80 : Value).ownBlock ∧ some k_ ≠ (s_.1 : Value).ownBlock) s_.2.1 t342) ∧ (Kd.N (Kd.slice 5 (Kd.int .u8)) 22 w' w.heap.size (fun k_ => some k_ ≠ (.slice Ao78 t330.length co78 : Value).ownBlock ∧ some k_ ≠ (.slice Ao80 t333.length co80 : Value).ownBlock ∧ some k_ ≠ (s_.1 : Value).ownBlock ∧ some k_ ≠ (s_.2.1 : Value).ownBlock ∧ k_ ≠ gb300 ∧ k_ ≠ gb337 ∧ k_ ≠ s_.2.2) (.slice Ao72 t296.length co72) t296) ∧ (w'.heap[gb337]? = some (.cells #[.slice Ao78 t330.length co78, .slice Ao80 t333.length co80] 24 (0, 0))) ∧ (w'.heap[s_.2.2]? = some (.cells #[.slice none 0 0, .slice none 0 0] 24 (0, 0))) ∧ (w.heap.size ≤ s_.2.2) ∧ (w.heap.size ≤ s_.2.2) ∧ (gb337 ≠ s_.2.2) ∧ (s_.2.2 ≠ gb337) ∧ (Below w.heap.size w w')) ?_ ?_
                    rotate_left
                    · intro hCont
                      refine two_ (i := 5) (j := 7) (Ni := some 90) (Nj := some 17) #[true, true, true, true, true, true, false, false, false] #[true, true, true, true, true, false, false, true, false] rfl rfl rfl rfl (two_of HT_.out (by kernel_rfl)) (by decide) (by decide) (fun K hK => ?_) (fun K hK => ?_)
                      · skip
                        refine goes_ Try.func23 (by kernel_rfl) rfl #[.int .i64 a4, .int .i64 (wrap64 ((l3.length : Int) + 9))] (by rfl) rfl rfl (by (try simp only [List.map_toArray, List.map_cons, List.map_nil]); first | done | rfl | (simp only [List.length_drop, List.length_take]; rfl)) ?_
                        with_reducible refine (customsmade_Within.calls a4 (wrap64 ((l3.length : Int) + 9)) t338 _ A55.out).mono ?_
                        rintro e w' ⟨rfl, ⟨nd, rfl⟩⟩
                        refine ⟨_, rfl, ?_⟩
                        refine hK.out _ _ ⟨(blk_cell BK337.out 0).trans rfl, (blk_cell BK337.out 1).trans rfl⟩ (fun hHeld => ?_)
                        clear hK K
                        refine norm_ (a' := ?_) ?_ ?_
                        rotate_left
                        · show Act.put _ (some 90) _ = _
                          simp only [Act.put, List.setIfInBounds_toArray, List.set_cons_zero, List.set_cons_succ, i64_w, i32_w]
                          rfl
                        refine two_ (i := 6) (j := 7) (Ni := some 91) (Nj := some 17) #[true, true, true, true, true, true, true, false, false] #[true, true, true, true, true, true, false, true, false] rfl rfl rfl rfl (two_of HT_.out (by kernel_rfl)) (by decide) (by decide) (fun K hK => ?_) (fun K hK => ?_)
                        · skip
                          refine goes_ Try.func21 (by kernel_rfl) rfl #[.agg #[.slice Ao78 t330.length co78, .slice Ao80 t333.length co80], .int .i64 t338] (by rfl) rfl rfl (by (try simp only [List.map_toArray, List.map_cons, List.map_nil]); first | done | rfl | (simp only [List.length_drop, List.length_take]; rfl)) ?_
                          with_reducible refine (disk_Crash.calls _ _ t330 _ _ t333 t338 t339 t342 _ ?side1 ?side2 ?side3 ?side4 A56.out).mono ?_
                          (case side1 => exact pC (Kd.R_reads' HO332.out).2.2)
                          (case side2 => exact (Kd.R_reads' HO332.out).2.1)
                          (case side3 => exact pC (Kd.R_reads' HO335.out).2.2)
                          (case side4 => exact (Kd.R_reads' HO335.out).2.1)
                          rintro e w83 ⟨v340, v343, rfl, ho0, ho1, hb⟩
                          refine ⟨_, rfl, ?_⟩
                          have n0_ := Aside0.mk (Kd.N_mono (Kd.N_told (Kd.N_told (Kd.N_old (by exact pN HO_1.out) hb) (Kd.R_base ho0)) (Kd.R_base ho1)) (fun _ h_ => h_.1))
                          have n1_ := Aside0.mk (Kd.R_mono (Kd.R_told (Kd.R_told (Kd.R_old (by exact pR HO332.out) hb) (Kd.R_base ho0)) (Kd.R_base ho1)) (fun _ h_ => h_.1))
                          have n2_ := Aside0.mk (Kd.R_mono (Kd.R_told (Kd.R_told (Kd.R_old (by exact pR HO335.out) hb) (Kd.R_base ho0)) (Kd.R_base ho1)) (fun _ h_ => h_.1))
                          have n3_ := Aside0.mk (Kd.R_lower (Kd.R_new' (Kd.R_new' ho0 (Kd.R_lt (by exact pR HO332.out))) (Kd.R_lt (by exact pR HO335.out))) (below_size (by exact pB HB.out)))
                          have n4_ := Aside0.mk (Kd.R_lower (Kd.R_new' (Kd.R_new' ho1 (Kd.R_lt (by exact pR HO332.out))) (Kd.R_lt (by exact pR HO335.out))) (below_size (by exact pB HB.out)))
                          have n5_ := Aside0.mk (blk_below (g := gb337) (o := .cells #[.slice Ao78 t330.length co78, .slice Ao80 t333.length co80] 24 (0, 0)) (by exact pK BK337.out) hb)
                          have n6_ := Aside0.mk (below_step (by exact pB HB.out) hb)
                          clear HO_1
                          clear HO332
                          clear HO335
                          clear BK337
                          clear HB
                          have HO_1 := n0_
                          have HO332 := n1_
                          have HO335 := n2_
                          have HO341 := n3_
                          have HO344 := n4_
                          have BK337 := n5_
                          have HB := n6_
                          clear n0_ n1_ n2_ n3_ n4_ n5_ n6_
                          (try clear hb)
                          (try clear hb2)
                          (try clear hk)
                          (try clear hi)
                          (try clear ho0)
                          (try clear ho1)
                          refine hK.out _ _ ⟨(blk_cell BK337.out 0).trans rfl, (blk_cell BK337.out 1).trans rfl⟩ (fun hHeld => ?_)
                          clear hK K
                          refine norm_ (a' := ?_) ?_ ?_
                          rotate_left
                          · show Act.put _ (some 91) _ = _
                            simp only [Act.put, List.setIfInBounds_toArray, List.set_cons_zero, List.set_cons_succ, i64_w, i32_w]
                            rfl
                          refine one_ (i := 7) (N := some 17) #[true, true, true, true, true, true, true, true, false] rfl rfl (one_of HT_.out (by kernel_rfl)) (by decide) (fun K hK => ?_)
                          refine box_step ?hg (N := 17) ?hd (cs := #[.slice none 0 0, .slice none 0 0]) (t := 24) ?hr ?_; (case hd => rfl); (case hg => rfl); (case hr => first | (go_simp; done) | (go_simp; rfl))
                          intro gb345 hg w84 hbox hb
                          have n0_ := Aside0.mk (Kd.N_below (Kd.N_elderB (by exact pN HO_1.out) gb345 (Nat.le_of_eq hg.symm)) hb)
                          have n1_ := Aside0.mk (Kd.R_below (by exact pR HO332.out) hb)
                          have n2_ := Aside0.mk (Kd.R_below (by exact pR HO335.out) hb)
                          have n3_ := Aside0.mk (Kd.R_below (by exact pR HO341.out) hb)
                          have n4_ := Aside0.mk (Kd.R_below (by exact pR HO344.out) hb)
                          have n5_ := Aside0.mk (blk_below (g := gb337) (o := .cells #[.slice Ao78 t330.length co78, .slice Ao80 t333.length co80] 24 (0, 0)) (by exact pK BK337.out) hb)
                          have n6_ := Aside0.mk (below_step (by exact pB HB.out) hb)
                          have n7_ := Aside0.mk (hbox)
                          have n8_ := Aside0.mk ((by rw [hg]; exact (below_size (by exact pB HB.out)) : w.heap.size ≤ gb345))
                          have n9_ := Aside0.mk ((by rw [hg]; exact (below_size (by exact pB HB.out)) : w.heap.size ≤ gb345))
                          have n10_ := Aside0.mk ((by rw [hg]; exact Nat.ne_of_lt (blk_lt (g := gb337) (o := .cells #[.slice Ao78 t330.length co78, .slice Ao80 t333.length co80] 24 (0, 0)) (by exact pK BK337.out)) : gb337 ≠ gb345))
                          have n11_ := Aside0.mk ((by rw [hg]; exact Nat.ne_of_gt (blk_lt (g := gb337) (o := .cells #[.slice Ao78 t330.length co78, .slice Ao80 t333.length co80] 24 (0, 0)) (by exact pK BK337.out)) : gb345 ≠ gb337))
                          clear HO_1
                          clear HO332
                          clear HO335
                          clear HO341
                          clear HO344
                          clear BK337
                          clear HB
                          have HO_1 := n0_
                          have HO332 := n1_
                          have HO335 := n2_
                          have HO341 := n3_
                          have HO344 := n4_
                          have BK337 := n5_
                          have HB := n6_
                          have BK345 := n7_
                          have GW345 := n8_
                          have GE345 := n9_
                          have NB337_345 := n10_
                          have NB345_337 := n11_
                          clear n0_ n1_ n2_ n3_ n4_ n5_ n6_ n7_ n8_ n9_ n10_ n11_
                          clear hb hbox hg
                          refine hK.out _ _ ⟨(blk_cell BK337.out 0).trans rfl, (blk_cell BK337.out 1).trans rfl⟩ (fun hHeld => ?_)
                          clear hK K
                          refine norm_ (a' := ?_) ?_ ?_
                          rotate_left
                          · show Act.put _ (some 17) _ = _
                            simp only [Act.put, List.setIfInBounds_toArray, List.set_cons_zero, List.set_cons_succ, i64_w, i32_w]
                            rfl
                          exact norm_ (by simp only [putAll, Act.put, List.setIfInBounds_toArray, List.set_cons_zero, List.set_cons_succ]) (hCont (v340, v343, gb345) _ ⟨hHeld, (by exact pR (Kd.R_mono HO332.out (fun _ hk => ⟨hk.1.1, ⟨hk.1.2, hk.2⟩⟩))), (by exact pR (Kd.R_mono HO335.out (fun _ hk => ⟨hk.1.1, ⟨hk.1.2, hk.2⟩⟩))), (by exact pR (Kd.R_mono HO341.out (fun _ hk => ⟨hk.1.2, ⟨hk.2, hk.1.1⟩⟩))), (by exact pR (Kd.R_mono HO344.out (fun _ hk => ⟨hk.1.2, ⟨hk.2, hk.1.1⟩⟩))), (by exact pN (Kd.N_mono HO_1.out (fun _ hk => ⟨hk.1.1.1.1, ⟨hk.1.1.1.2.1, ⟨hk.1.1.2, ⟨hk.1.2, ⟨hk.1.1.1.2.2.1, ⟨hk.1.1.1.2.2.2, hk.2⟩⟩⟩⟩⟩⟩))), (by exact pK BK337.out), (by exact pK BK345.out), GW345.out, GE345.out, NB337_345.out, NB345_337.out, (by exact pB HB.out)⟩)
                        · skip
                          refine box_step ?hg (N := 17) ?hd (cs := #[.slice none 0 0, .slice none 0 0]) (t := 24) ?hr ?_; (case hd => rfl); (case hg => rfl); (case hr => first | (go_simp; done) | (go_simp; rfl))
                          intro gb345 hg w83 hbox hb
                          have n0_ := Aside0.mk (Kd.N_below (Kd.N_elderB (by exact pN HO_1.out) gb345 (Nat.le_of_eq hg.symm)) hb)
                          have n1_ := Aside0.mk (Kd.R_below (by exact pR HO332.out) hb)
                          have n2_ := Aside0.mk (Kd.R_below (by exact pR HO335.out) hb)
                          have n3_ := Aside0.mk (blk_below (g := gb337) (o := .cells #[.slice Ao78 t330.length co78, .slice Ao80 t333.length co80] 24 (0, 0)) (by exact pK BK337.out) hb)
                          have n4_ := Aside0.mk (below_step (by exact pB HB.out) hb)
                          have n5_ := Aside0.mk (hbox)
                          have n6_ := Aside0.mk ((by rw [hg]; exact (below_size (by exact pB HB.out)) : w.heap.size ≤ gb345))
                          have n7_ := Aside0.mk ((by rw [hg]; exact (below_size (by exact pB HB.out)) : w.heap.size ≤ gb345))
                          have n8_ := Aside0.mk ((by rw [hg]; exact Nat.ne_of_lt (blk_lt (g := gb337) (o := .cells #[.slice Ao78 t330.length co78, .slice Ao80 t333.length co80] 24 (0, 0)) (by exact pK BK337.out)) : gb337 ≠ gb345))
                          have n9_ := Aside0.mk ((by rw [hg]; exact Nat.ne_of_gt (blk_lt (g := gb337) (o := .cells #[.slice Ao78 t330.length co78, .slice Ao80 t333.length co80] 24 (0, 0)) (by exact pK BK337.out)) : gb345 ≠ gb337))
                          clear HO_1
                          clear HO332
                          clear HO335
                          clear BK337
                          clear HB
                          have HO_1 := n0_
                          have HO332 := n1_
                          have HO335 := n2_
                          have BK337 := n3_
                          have HB := n4_
                          have BK345 := n5_
                          have GW345 := n6_
                          have GE345 := n7_
                          have NB337_345 := n8_
                          have NB345_337 := n9_
                          clear n0_ n1_ n2_ n3_ n4_ n5_ n6_ n7_ n8_ n9_
                          clear hb hbox hg
                          refine hK.out _ _ ⟨(blk_cell BK337.out 0).trans rfl, (blk_cell BK337.out 1).trans rfl⟩ (fun hHeld => ?_)
                          clear hK K
                          refine norm_ (a' := ?_) ?_ ?_
                          rotate_left
                          · show Act.put _ (some 17) _ = _
                            simp only [Act.put, List.setIfInBounds_toArray, List.set_cons_zero, List.set_cons_succ, i64_w, i32_w]
                            rfl
                          refine one_ (i := 6) (N := some 91) #[true, true, true, true, true, true, true, true, false] rfl rfl (one_of HT_.out (by kernel_rfl)) (by decide) (fun K hK => ?_)
                          refine goes_ Try.func21 (by kernel_rfl) rfl #[.agg #[.slice Ao78 t330.length co78, .slice Ao80 t333.length co80], .int .i64 t338] (by rfl) rfl rfl (by (try simp only [List.map_toArray, List.map_cons, List.map_nil]); first | done | rfl | (simp only [List.length_drop, List.length_take]; rfl)) ?_
                          with_reducible refine (disk_Crash.calls _ _ t330 _ _ t333 t338 t339 t342 _ ?side1 ?side2 ?side3 ?side4 A56.out).mono ?_
                          (case side1 => exact pC (Kd.R_reads' HO332.out).2.2)
                          (case side2 => exact (Kd.R_reads' HO332.out).2.1)
                          (case side3 => exact pC (Kd.R_reads' HO335.out).2.2)
                          (case side4 => exact (Kd.R_reads' HO335.out).2.1)
                          rintro e w84 ⟨v340, v343, rfl, ho0, ho1, hb⟩
                          refine ⟨_, rfl, ?_⟩
                          have n0_ := Aside0.mk (Kd.N_mono (Kd.N_told (Kd.N_told (Kd.N_old (by exact pN HO_1.out) hb) (Kd.R_base ho0)) (Kd.R_base ho1)) (fun _ h_ => h_.1))
                          have n1_ := Aside0.mk (Kd.R_mono (Kd.R_told (Kd.R_told (Kd.R_old (by exact pR HO332.out) hb) (Kd.R_base ho0)) (Kd.R_base ho1)) (fun _ h_ => h_.1))
                          have n2_ := Aside0.mk (Kd.R_mono (Kd.R_told (Kd.R_told (Kd.R_old (by exact pR HO335.out) hb) (Kd.R_base ho0)) (Kd.R_base ho1)) (fun _ h_ => h_.1))
                          have n3_ := Aside0.mk (Kd.R_lower (Kd.R_new' (Kd.R_new' ho0 (Kd.R_lt (by exact pR HO332.out))) (Kd.R_lt (by exact pR HO335.out))) (below_size (by exact pB HB.out)))
                          have n4_ := Aside0.mk (Kd.R_lower (Kd.R_new' (Kd.R_new' ho1 (Kd.R_lt (by exact pR HO332.out))) (Kd.R_lt (by exact pR HO335.out))) (below_size (by exact pB HB.out)))
                          have n5_ := Aside0.mk (blk_below (g := gb337) (o := .cells #[.slice Ao78 t330.length co78, .slice Ao80 t333.length co80] 24 (0, 0)) (by exact pK BK337.out) hb)
                          have n6_ := Aside0.mk (blk_below (g := gb345) (o := .cells #[.slice none 0 0, .slice none 0 0] 24 (0, 0)) (by exact pK BK345.out) hb)
                          have n7_ := Aside0.mk (below_step (by exact pB HB.out) hb)
                          clear HO_1
                          clear HO332
                          clear HO335
                          clear BK337
                          clear BK345
                          clear HB
                          have HO_1 := n0_
                          have HO332 := n1_
                          have HO335 := n2_
                          have HO341 := n3_
                          have HO344 := n4_
                          have BK337 := n5_
                          have BK345 := n6_
                          have HB := n7_
                          clear n0_ n1_ n2_ n3_ n4_ n5_ n6_ n7_
                          (try clear hb)
                          (try clear hb2)
                          (try clear hk)
                          (try clear hi)
                          (try clear ho0)
                          (try clear ho1)
                          refine hK.out _ _ ⟨(blk_cell BK337.out 0).trans rfl, (blk_cell BK337.out 1).trans rfl⟩ (fun hHeld => ?_)
                          clear hK K
                          refine norm_ (a' := ?_) ?_ ?_
                          rotate_left
                          · show Act.put _ (some 91) _ = _
                            simp only [Act.put, List.setIfInBounds_toArray, List.set_cons_zero, List.set_cons_succ, i64_w, i32_w]
                            rfl
                          exact norm_ (by simp only [putAll, Act.put, List.setIfInBounds_toArray, List.set_cons_zero, List.set_cons_succ]) (hCont (v340, v343, gb345) _ ⟨hHeld, (by exact pR (Kd.R_mono HO332.out (fun _ hk => ⟨hk.1.1, ⟨hk.1.2, hk.2⟩⟩))), (by exact pR (Kd.R_mono HO335.out (fun _ hk => ⟨hk.1.1, ⟨hk.1.2, hk.2⟩⟩))), (by exact pR (Kd.R_mono HO341.out (fun _ hk => ⟨hk.1.2, ⟨hk.2, hk.1.1⟩⟩))), (by exact pR (Kd.R_mono HO344.out (fun _ hk => ⟨hk.1.2, ⟨hk.2, hk.1.1⟩⟩))), (by exact pN (Kd.N_mono HO_1.out (fun _ hk => ⟨hk.1.1.1.1, ⟨hk.1.1.1.2.1, ⟨hk.1.2, ⟨hk.2, ⟨hk.1.1.1.2.2.1, ⟨hk.1.1.1.2.2.2, hk.1.1.2⟩⟩⟩⟩⟩⟩))), (by exact pK BK337.out), (by exact pK BK345.out), GW345.out, GE345.out, NB337_345.out, NB345_337.out, (by exact pB HB.out)⟩)
                      · skip
                        refine box_step ?hg (N := 17) ?hd (cs := #[.slice none 0 0, .slice none 0 0]) (t := 24) ?hr ?_; (case hd => rfl); (case hg => rfl); (case hr => first | (go_simp; done) | (go_simp; rfl))
                        intro gb345 hg w83 hbox hb
                        have n0_ := Aside0.mk (Kd.N_below (Kd.N_elderB (by exact pN HO_1.out) gb345 (Nat.le_of_eq hg.symm)) hb)
                        have n1_ := Aside0.mk (Kd.R_below (by exact pR HO332.out) hb)
                        have n2_ := Aside0.mk (Kd.R_below (by exact pR HO335.out) hb)
                        have n3_ := Aside0.mk (blk_below (g := gb337) (o := .cells #[.slice Ao78 t330.length co78, .slice Ao80 t333.length co80] 24 (0, 0)) (by exact pK BK337.out) hb)
                        have n4_ := Aside0.mk (below_step (by exact pB HB.out) hb)
                        have n5_ := Aside0.mk (hbox)
                        have n6_ := Aside0.mk ((by rw [hg]; exact (below_size (by exact pB HB.out)) : w.heap.size ≤ gb345))
                        have n7_ := Aside0.mk ((by rw [hg]; exact (below_size (by exact pB HB.out)) : w.heap.size ≤ gb345))
                        have n8_ := Aside0.mk ((by rw [hg]; exact Nat.ne_of_lt (blk_lt (g := gb337) (o := .cells #[.slice Ao78 t330.length co78, .slice Ao80 t333.length co80] 24 (0, 0)) (by exact pK BK337.out)) : gb337 ≠ gb345))
                        have n9_ := Aside0.mk ((by rw [hg]; exact Nat.ne_of_gt (blk_lt (g := gb337) (o := .cells #[.slice Ao78 t330.length co78, .slice Ao80 t333.length co80] 24 (0, 0)) (by exact pK BK337.out)) : gb345 ≠ gb337))
                        clear HO_1
                        clear HO332
                        clear HO335
                        clear BK337
                        clear HB
                        have HO_1 := n0_
                        have HO332 := n1_
                        have HO335 := n2_
                        have BK337 := n3_
                        have HB := n4_
                        have BK345 := n5_
                        have GW345 := n6_
                        have GE345 := n7_
                        have NB337_345 := n8_
                        have NB345_337 := n9_
                        clear n0_ n1_ n2_ n3_ n4_ n5_ n6_ n7_ n8_ n9_
                        clear hb hbox hg
                        refine hK.out _ _ ⟨(blk_cell BK337.out 0).trans rfl, (blk_cell BK337.out 1).trans rfl⟩ (fun hHeld => ?_)
                        clear hK K
                        refine norm_ (a' := ?_) ?_ ?_
                        rotate_left
                        · show Act.put _ (some 17) _ = _
                          simp only [Act.put, List.setIfInBounds_toArray, List.set_cons_zero, List.set_cons_succ, i64_w, i32_w]
                          rfl
                        refine one_ (i := 5) (N := some 90) #[true, true, true, true, true, true, false, true, false] rfl rfl (one_of HT_.out (by kernel_rfl)) (by decide) (fun K hK => ?_)
                        refine goes_ Try.func23 (by kernel_rfl) rfl #[.int .i64 a4, .int .i64 (wrap64 ((l3.length : Int) + 9))] (by rfl) rfl rfl (by (try simp only [List.map_toArray, List.map_cons, List.map_nil]); first | done | rfl | (simp only [List.length_drop, List.length_take]; rfl)) ?_
                        with_reducible refine (customsmade_Within.calls a4 (wrap64 ((l3.length : Int) + 9)) t338 _ A55.out).mono ?_
                        rintro e w' ⟨rfl, ⟨nd, rfl⟩⟩
                        refine ⟨_, rfl, ?_⟩
                        refine hK.out _ _ ⟨(blk_cell BK337.out 0).trans rfl, (blk_cell BK337.out 1).trans rfl⟩ (fun hHeld => ?_)
                        clear hK K
                        refine norm_ (a' := ?_) ?_ ?_
                        rotate_left
                        · show Act.put _ (some 90) _ = _
                          simp only [Act.put, List.setIfInBounds_toArray, List.set_cons_zero, List.set_cons_succ, i64_w, i32_w]
                          rfl
                        refine one_ (i := 6) (N := some 91) #[true, true, true, true, true, true, true, true, false] rfl rfl (one_of HT_.out (by kernel_rfl)) (by decide) (fun K hK => ?_)
                        refine goes_ Try.func21 (by kernel_rfl) rfl #[.agg #[.slice Ao78 t330.length co78, .slice Ao80 t333.length co80], .int .i64 t338] (by rfl) rfl rfl (by (try simp only [List.map_toArray, List.map_cons, List.map_nil]); first | done | rfl | (simp only [List.length_drop, List.length_take]; rfl)) ?_
                        with_reducible refine (disk_Crash.calls _ _ t330 _ _ t333 t338 t339 t342 _ ?side1 ?side2 ?side3 ?side4 A56.out).mono ?_
                        (case side1 => exact pC (Kd.R_reads' HO332.out).2.2)
                        (case side2 => exact (Kd.R_reads' HO332.out).2.1)
                        (case side3 => exact pC (Kd.R_reads' HO335.out).2.2)
                        (case side4 => exact (Kd.R_reads' HO335.out).2.1)
                        rintro e w84 ⟨v340, v343, rfl, ho0, ho1, hb⟩
                        refine ⟨_, rfl, ?_⟩
                        have n0_ := Aside0.mk (Kd.N_mono (Kd.N_told (Kd.N_told (Kd.N_old (by exact pN HO_1.out) hb) (Kd.R_base ho0)) (Kd.R_base ho1)) (fun _ h_ => h_.1))
                        have n1_ := Aside0.mk (Kd.R_mono (Kd.R_told (Kd.R_told (Kd.R_old (by exact pR HO332.out) hb) (Kd.R_base ho0)) (Kd.R_base ho1)) (fun _ h_ => h_.1))
                        have n2_ := Aside0.mk (Kd.R_mono (Kd.R_told (Kd.R_told (Kd.R_old (by exact pR HO335.out) hb) (Kd.R_base ho0)) (Kd.R_base ho1)) (fun _ h_ => h_.1))
                        have n3_ := Aside0.mk (Kd.R_lower (Kd.R_new' (Kd.R_new' ho0 (Kd.R_lt (by exact pR HO332.out))) (Kd.R_lt (by exact pR HO335.out))) (below_size (by exact pB HB.out)))
                        have n4_ := Aside0.mk (Kd.R_lower (Kd.R_new' (Kd.R_new' ho1 (Kd.R_lt (by exact pR HO332.out))) (Kd.R_lt (by exact pR HO335.out))) (below_size (by exact pB HB.out)))
                        have n5_ := Aside0.mk (blk_below (g := gb337) (o := .cells #[.slice Ao78 t330.length co78, .slice Ao80 t333.length co80] 24 (0, 0)) (by exact pK BK337.out) hb)
                        have n6_ := Aside0.mk (blk_below (g := gb345) (o := .cells #[.slice none 0 0, .slice none 0 0] 24 (0, 0)) (by exact pK BK345.out) hb)
                        have n7_ := Aside0.mk (below_step (by exact pB HB.out) hb)
                        clear HO_1
                        clear HO332
                        clear HO335
                        clear BK337
                        clear BK345
                        clear HB
                        have HO_1 := n0_
                        have HO332 := n1_
                        have HO335 := n2_
                        have HO341 := n3_
                        have HO344 := n4_
                        have BK337 := n5_
                        have BK345 := n6_
                        have HB := n7_
                        clear n0_ n1_ n2_ n3_ n4_ n5_ n6_ n7_
                        (try clear hb)
                        (try clear hb2)
                        (try clear hk)
                        (try clear hi)
                        (try clear ho0)
                        (try clear ho1)
                        refine hK.out _ _ ⟨(blk_cell BK337.out 0).trans rfl, (blk_cell BK337.out 1).trans rfl⟩ (fun hHeld => ?_)
                        clear hK K
                        refine norm_ (a' := ?_) ?_ ?_
                        rotate_left
                        · show Act.put _ (some 91) _ = _
                          simp only [Act.put, List.setIfInBounds_toArray, List.set_cons_zero, List.set_cons_succ, i64_w, i32_w]
                          rfl
                        exact norm_ (by simp only [putAll, Act.put, List.setIfInBounds_toArray, List.set_cons_zero, List.set_cons_succ]) (hCont (v340, v343, gb345) _ ⟨hHeld, (by exact pR (Kd.R_mono HO332.out (fun _ hk => ⟨hk.1.1, ⟨hk.1.2, hk.2⟩⟩))), (by exact pR (Kd.R_mono HO335.out (fun _ hk => ⟨hk.1.1, ⟨hk.1.2, hk.2⟩⟩))), (by exact pR (Kd.R_mono HO341.out (fun _ hk => ⟨hk.1.2, ⟨hk.2, hk.1.1⟩⟩))), (by exact pR (Kd.R_mono HO344.out (fun _ hk => ⟨hk.1.2, ⟨hk.2, hk.1.1⟩⟩))), (by exact pN (Kd.N_mono HO_1.out (fun _ hk => ⟨hk.1.1.1.1, ⟨hk.1.1.1.2.1, ⟨hk.1.2, ⟨hk.2, ⟨hk.1.1.1.2.2.1, ⟨hk.1.1.1.2.2.2, hk.1.1.2⟩⟩⟩⟩⟩⟩))), (by exact pK BK337.out), (by exact pK BK345.out), GW345.out, GE345.out, NB337_345.out, NB345_337.out, (by exact pB HB.out)⟩)
                    rintro ⟨v340, v343, gb345⟩ w85 ⟨hS_, h0_, h1_, h2_, h3_, h4_, h5_, h6_, h7_, h8_, h9_, h10_, h11_⟩
                    have n0_ : Aside0 (Kd.R (Kd.int .u8) 5 w85 w.heap.size (fun k_ => some k_ ≠ (.slice Ao80 t333.length co80 : Value).ownBlock ∧ some k_ ≠ (v340 : Value).ownBlock ∧ some k_ ≠ (v343 : Value).ownBlock) (.slice Ao78 t330.length co78) t330) := ⟨h0_⟩
                    have n1_ : Aside0 (Kd.R (Kd.int .u8) 5 w85 w.heap.size (fun k_ => some k_ ≠ (.slice Ao78 t330.length co78 : Value).ownBlock ∧ some k_ ≠ (v340 : Value).ownBlock ∧ some k_ ≠ (v343 : Value).ownBlock) (.slice Ao80 t333.length co80) t333) := ⟨h1_⟩
                    have n2_ : Aside0 (Kd.R (Kd.int .u8) 5 w85 w.heap.size (fun k_ => some k_ ≠ (.slice Ao78 t330.length co78 : Value).ownBlock ∧ some k_ ≠ (.slice Ao80 t333.length co80 : Value).ownBlock ∧ some k_ ≠ (v343 : Value).ownBlock) v340 t339) := ⟨h2_⟩
                    have n3_ : Aside0 (Kd.R (Kd.int .u8) 5 w85 w.heap.size (fun k_ => some k_ ≠ (.slice Ao78 t330.length co78 : Value).ownBlock ∧ some k_ ≠ (.slice Ao80 t333.length co80 : Value).ownBlock ∧ some k_ ≠ (v340 : Value).ownBlock) v343 t342) := ⟨h3_⟩
                    have n4_ : Aside0 (Kd.N (Kd.slice 5 (Kd.int .u8)) 22 w85 w.heap.size (fun k_ => some k_ ≠ (.slice Ao78 t330.length co78 : Value).ownBlock ∧ some k_ ≠ (.slice Ao80 t333.length co80 : Value).ownBlock ∧ some k_ ≠ (v340 : Value).ownBlock ∧ some k_ ≠ (v343 : Value).ownBlock ∧ k_ ≠ gb300 ∧ k_ ≠ gb337 ∧ k_ ≠ gb345) (.slice Ao72 t296.length co72) t296) := ⟨h4_⟩
                    have n5_ : Aside0 (w85.heap[gb337]? = some (.cells #[.slice Ao78 t330.length co78, .slice Ao80 t333.length co80] 24 (0, 0))) := ⟨h5_⟩
                    have n6_ : Aside0 (w85.heap[gb345]? = some (.cells #[.slice none 0 0, .slice none 0 0] 24 (0, 0))) := ⟨h6_⟩
                    have n7_ : Aside0 (w.heap.size ≤ gb345) := ⟨h7_⟩
                    have n8_ : Aside0 (w.heap.size ≤ gb345) := ⟨h8_⟩
                    have n9_ : Aside0 (gb337 ≠ gb345) := ⟨h9_⟩
                    have n10_ : Aside0 (gb345 ≠ gb337) := ⟨h10_⟩
                    have n11_ : Aside0 (Below w.heap.size w w85) := ⟨h11_⟩
                    clear HO_1
                    clear HO332
                    clear HO335
                    clear BK337
                    clear HB
                    clear h0_ h1_ h2_ h3_ h4_ h5_ h6_ h7_ h8_ h9_ h10_ h11_
                    have HO332 := n0_
                    have HO335 := n1_
                    have HO341 := n2_
                    have HO344 := n3_
                    have HO_1 := n4_
                    have BK337 := n5_
                    have BK345 := n6_
                    have GW345 := n7_
                    have GE345 := n8_
                    have NB337_345 := n9_
                    have NB345_337 := n10_
                    have HB := n11_
                    clear n0_ n1_ n2_ n3_ n4_ n5_ n6_ n7_ n8_ n9_ n10_ n11_
                    have hHeld : w85.cell? ⟨gb337, 0, none⟩ = some (.slice Ao78 t330.length co78) ∧ w85.cell? ⟨gb337, 1, none⟩ = some (.slice Ao80 t333.length co80) := hS_
                    obtain ⟨Ao86, co86, eo86⟩ := Kd.R_slice HO341.out
                    (first | subst eo86 | (injection eo86 with f1_ f2_ f3_; have f4_ := f1_.symm; have f5_ := f3_.symm; clear f1_ f2_ f3_; subst f4_; subst f5_))
                    obtain ⟨Ao88, co88, eo88⟩ := Kd.R_slice HO344.out
                    (first | subst eo88 | (injection eo88 with f1_ f2_ f3_; have f4_ := f1_.symm; have f5_ := f3_.symm; clear f1_ f2_ f3_; subst f4_; subst f5_))
                    refine norm_ (a' := ?_) ?_ ?_
                    rotate_left
                    · simp only [putAll, Act.put, List.setIfInBounds_toArray, List.set_cons_zero, List.set_cons_succ]
                      rfl
                    refine one_ (i := 8) (N := none) #[true, true, true, true, true, true, true, true, true] rfl rfl (one_of HT_.out (by kernel_rfl)) (by decide) (fun K hK => ?_)
                    have hs87 : w85.cell? ⟨gb345, 0, none⟩ = some (.slice none 0 0) := (blk_cell BK345.out 0).trans rfl
                    have hfs87 := blk_frozen BK345.out 0
                    have hns87_0 := NB337_345.out
                    have hms87_0 := NB345_337.out
                    have hs89 : w85.cell? ⟨gb345, 1, none⟩ = some (.slice none 0 0) := (blk_cell BK345.out 1).trans rfl
                    have hfs89 := blk_frozen BK345.out 1
                    have hns89_0 := NB337_345.out
                    have hms89_0 := NB345_337.out
                    refine skip_ (w1 := ?_) (by rfl) rfl ?_ ?_
                    rotate_left
                    · go_simp
                      rfl
                    refine hK.out _ _ ⟨((cell_far (p := ⟨gb345, _, none⟩) NB337_345.out _).trans (((cell_far (p := ⟨gb345, _, none⟩) NB337_345.out _).trans (hHeld.1)))), ((cell_far (p := ⟨gb345, _, none⟩) NB337_345.out _).trans (((cell_far (p := ⟨gb345, _, none⟩) NB337_345.out _).trans (hHeld.2))))⟩ (fun hHeld => ?_)
                    clear hK K
                    refine done_ (done_of HT_.out (by kernel_rfl)) ?_
                    have hnb90 := NB345_337.out
                    have hnc90 := NB337_345.out
                    have hcz91_0 : w85.cell? ⟨gb345, 0, none⟩ = some (.slice none 0 0) := (blk_cell BK345.out 0).trans rfl
                    have hcz91_1 : w85.cell? ⟨gb345, 1, none⟩ = some (.slice none 0 0) := (blk_cell BK345.out 1).trans rfl
                    have hfz91_0 := blk_frozen BK345.out 0
                    have hfz91_1 := blk_frozen BK345.out 1
                    try go_wp2_with (first | ((with_reducible refine gate_callee (f := 38) rfl ?_); refine goesL_ (some 94) rfl rfl Try.func38 (by kernel_rfl) rfl #[.agg #[.slice Ao86 t339.length co86, .slice Ao88 t342.length co88]] rfl (by (try simp only [List.map_toArray, List.map_cons, List.map_nil]); first | done | rfl | (simp only [List.length_drop, List.length_take]; rfl)) ?_; (with_reducible refine (journal_Open.calls k3 _ _ t339 _ _ t342 t346 t349 t352 true t356 _ ?side1 ?side2 ?side3 ?side4 A57.out).mono ?_); (case side1 => refine (Kd.R_reads' (e := 5) (base := w.heap.size) (ok := fun k_ => (some k_ ≠ (.slice Ao78 t330.length co78 : Value).ownBlock ∧ (some k_ ≠ (.slice Ao80 t333.length co80 : Value).ownBlock ∧ some k_ ≠ (.slice Ao88 t342.length co88 : Value).ownBlock))) (n := t339.length) (c := co86) ?_).2.2; exact (by (with_reducible repeat (first | apply Kd.R_alloc | apply Kd.R_drewN | apply Kd.R_drew)); exact (Kd.R_mono (Kd.R_far (p := ⟨gb345, 1, none⟩) (Kd.R_far (p := ⟨gb345, 0, none⟩) (Kd.R_types HO341.out BK345.out (by decide)) (fun _ hk => hk.2) (.slice Ao86 t339.length co86)) (fun _ hk => hk.2) (.slice Ao88 t342.length co88)) (fun _ h_ => h_.1)))); (case side2 => exact (Kd.R_reads' HO341.out).2.1); (case side3 => refine (Kd.R_reads' (e := 5) (base := w.heap.size) (ok := fun k_ => (some k_ ≠ (.slice Ao78 t330.length co78 : Value).ownBlock ∧ (some k_ ≠ (.slice Ao80 t333.length co80 : Value).ownBlock ∧ some k_ ≠ (.slice Ao86 t339.length co86 : Value).ownBlock))) (n := t342.length) (c := co88) ?_).2.2; exact (by (with_reducible repeat (first | apply Kd.R_alloc | apply Kd.R_drewN | apply Kd.R_drew)); exact (Kd.R_mono (Kd.R_far (p := ⟨gb345, 1, none⟩) (Kd.R_far (p := ⟨gb345, 0, none⟩) (Kd.R_types HO344.out BK345.out (by decide)) (fun _ hk => hk.2) (.slice Ao86 t339.length co86)) (fun _ hk => hk.2) (.slice Ao88 t342.length co88)) (fun _ h_ => h_.1)))); (case side4 => exact (Kd.R_reads' HO344.out).2.1); rintro e w92 ⟨v347, v350, v353, v357, rfl, ho0, ho1, ho2, ho3, hb⟩; refine ⟨_, rfl, ?_⟩; have n0_ := Aside0.mk (Kd.N_mono (Kd.N_told (Kd.N_told (Kd.N_old (by (with_reducible repeat (first | apply Kd.N_alloc | apply Kd.N_drewN | apply Kd.N_drew)); exact (Kd.N_mono (Kd.N_far (p := ⟨gb345, 1, none⟩) (Kd.N_far (p := ⟨gb345, 0, none⟩) (Kd.N_mono HO_1.out (fun k_ hk => (⟨hk, hk.2.2.2.2.2.2⟩ : _ ∧ k_ ≠ gb345))) (fun _ hk => hk.2) (.slice Ao86 t339.length co86)) (fun _ hk => hk.2) (.slice Ao88 t342.length co88)) (fun _ h_ => h_.1))) hb) (Kd.R_base ho1)) (Kd.N_base ho3)) (fun _ h_ => h_.1)); have n1_ := Aside0.mk (Kd.R_elder' (by (with_reducible repeat (first | apply Kd.R_alloc | apply Kd.R_drewN | apply Kd.R_drew)); exact (Kd.R_mono (Kd.R_far (p := ⟨gb345, 1, none⟩) (Kd.R_far (p := ⟨gb345, 0, none⟩) (Kd.R_types HO332.out BK345.out (by decide)) (fun _ hk => hk.2) (.slice Ao86 t339.length co86)) (fun _ hk => hk.2) (.slice Ao88 t342.length co88)) (fun _ h_ => h_.1))) (Kd.R_base ho1) hb); have n2_ := Aside0.mk (Kd.R_elder' (by (with_reducible repeat (first | apply Kd.R_alloc | apply Kd.R_drewN | apply Kd.R_drew)); exact (Kd.R_mono (Kd.R_far (p := ⟨gb345, 1, none⟩) (Kd.R_far (p := ⟨gb345, 0, none⟩) (Kd.R_types HO335.out BK345.out (by decide)) (fun _ hk => hk.2) (.slice Ao86 t339.length co86)) (fun _ hk => hk.2) (.slice Ao88 t342.length co88)) (fun _ h_ => h_.1))) (Kd.R_base ho1) hb); have n3_ := Aside0.mk (Kd.R_elder' (by (with_reducible repeat (first | apply Kd.R_alloc | apply Kd.R_drewN | apply Kd.R_drew)); exact (Kd.R_mono (Kd.R_far (p := ⟨gb345, 1, none⟩) (Kd.R_far (p := ⟨gb345, 0, none⟩) (Kd.R_types HO341.out BK345.out (by decide)) (fun _ hk => hk.2) (.slice Ao86 t339.length co86)) (fun _ hk => hk.2) (.slice Ao88 t342.length co88)) (fun _ h_ => h_.1))) (Kd.R_base ho1) hb); have n4_ := Aside0.mk (Kd.R_elder' (by (with_reducible repeat (first | apply Kd.R_alloc | apply Kd.R_drewN | apply Kd.R_drew)); exact (Kd.R_mono (Kd.R_far (p := ⟨gb345, 1, none⟩) (Kd.R_far (p := ⟨gb345, 0, none⟩) (Kd.R_types HO344.out BK345.out (by decide)) (fun _ hk => hk.2) (.slice Ao86 t339.length co86)) (fun _ hk => hk.2) (.slice Ao88 t342.length co88)) (fun _ h_ => h_.1))) (Kd.R_base ho1) hb); have n5_ := Aside0.mk (Kd.V_lower (Kd.V_mono (ok' := fun k_ => some k_ ≠ (v350 : Value).ownBlock ∧ some k_ ≠ (v357 : Value).ownBlock ∧ some k_ ≠ (.slice Ao72 t296.length co72 : Value).ownBlock ∧ some k_ ≠ (.slice Ao78 t330.length co78 : Value).ownBlock ∧ some k_ ≠ (.slice Ao80 t333.length co80 : Value).ownBlock ∧ some k_ ≠ (.slice Ao86 t339.length co86 : Value).ownBlock ∧ some k_ ≠ (.slice Ao88 t342.length co88 : Value).ownBlock ∧ k_ ≠ gb337 ∧ k_ ≠ gb345) ho0 (fun k_ hk_ => ⟨hk_.2.1, hk_.2.2, (Kd.fresh' (Kd.N_lt (by (with_reducible repeat (first | apply Kd.N_alloc | apply Kd.N_drewN | apply Kd.N_drew)); exact (Kd.N_mono (Kd.N_far (p := ⟨gb345, 1, none⟩) (Kd.N_far (p := ⟨gb345, 0, none⟩) (Kd.N_mono HO_1.out (fun k_ hk => (⟨hk, hk.2.2.2.2.2.2⟩ : _ ∧ k_ ≠ gb345))) (fun _ hk => hk.2) (.slice Ao86 t339.length co86)) (fun _ hk => hk.2) (.slice Ao88 t342.length co88)) (fun _ h_ => h_.1)))) k_ hk_.1), (Kd.fresh' (Kd.R_lt (by (with_reducible repeat (first | apply Kd.R_alloc | apply Kd.R_drewN | apply Kd.R_drew)); exact (Kd.R_mono (Kd.R_far (p := ⟨gb345, 1, none⟩) (Kd.R_far (p := ⟨gb345, 0, none⟩) (Kd.R_types HO332.out BK345.out (by decide)) (fun _ hk => hk.2) (.slice Ao86 t339.length co86)) (fun _ hk => hk.2) (.slice Ao88 t342.length co88)) (fun _ h_ => h_.1)))) k_ hk_.1), (Kd.fresh' (Kd.R_lt (by (with_reducible repeat (first | apply Kd.R_alloc | apply Kd.R_drewN | apply Kd.R_drew)); exact (Kd.R_mono (Kd.R_far (p := ⟨gb345, 1, none⟩) (Kd.R_far (p := ⟨gb345, 0, none⟩) (Kd.R_types HO335.out BK345.out (by decide)) (fun _ hk => hk.2) (.slice Ao86 t339.length co86)) (fun _ hk => hk.2) (.slice Ao88 t342.length co88)) (fun _ h_ => h_.1)))) k_ hk_.1), (Kd.fresh' (Kd.R_lt (by (with_reducible repeat (first | apply Kd.R_alloc | apply Kd.R_drewN | apply Kd.R_drew)); exact (Kd.R_mono (Kd.R_far (p := ⟨gb345, 1, none⟩) (Kd.R_far (p := ⟨gb345, 0, none⟩) (Kd.R_types HO341.out BK345.out (by decide)) (fun _ hk => hk.2) (.slice Ao86 t339.length co86)) (fun _ hk => hk.2) (.slice Ao88 t342.length co88)) (fun _ h_ => h_.1)))) k_ hk_.1), (Kd.fresh' (Kd.R_lt (by (with_reducible repeat (first | apply Kd.R_alloc | apply Kd.R_drewN | apply Kd.R_drew)); exact (Kd.R_mono (Kd.R_far (p := ⟨gb345, 1, none⟩) (Kd.R_far (p := ⟨gb345, 0, none⟩) (Kd.R_types HO344.out BK345.out (by decide)) (fun _ hk => hk.2) (.slice Ao86 t339.length co86)) (fun _ hk => hk.2) (.slice Ao88 t342.length co88)) (fun _ h_ => h_.1)))) k_ hk_.1), (Kd.freshB (g := gb337) (o := .cells #[.slice Ao78 t330.length co78, .slice Ao80 t333.length co80] 24 (0, 0)) (by (with_reducible repeat (first | refine blk_drewN ?_ _ | refine blk_drew ?_ | refine blk_alloc ?_ _)); refine blk_far ?_ NB337_345.out _; (with_reducible repeat (first | refine blk_drewN ?_ _ | refine blk_drew ?_ | refine blk_alloc ?_ _)); refine blk_far ?_ NB337_345.out _; (with_reducible repeat (first | refine blk_drewN ?_ _ | refine blk_drew ?_ | refine blk_alloc ?_ _)); exact BK337.out) k_ hk_.1), (Kd.freshB (g := gb345) (o := .cells #[.slice Ao86 t339.length co86, .slice Ao88 t342.length co88] 24 (0, 0)) (by (with_reducible repeat (first | refine blk_drewN ?_ _ | refine blk_drew ?_ | refine blk_alloc ?_ _)); refine blk_put (cs := #[.slice Ao86 t339.length co86, .slice none 0 0]) ?_ 1 _ rfl; (with_reducible repeat (first | refine blk_drewN ?_ _ | refine blk_drew ?_ | refine blk_alloc ?_ _)); refine blk_put (cs := #[.slice none 0 0, .slice none 0 0]) ?_ 0 _ rfl; (with_reducible repeat (first | refine blk_drewN ?_ _ | refine blk_drew ?_ | refine blk_alloc ?_ _)); exact BK345.out) k_ hk_.1)⟩)) (below_size (by repeat (first | (with_reducible first | exact HB.out | apply below_alloc | apply pw_below_drewN | apply below_drew1 | refine below_set ?_ GE337.out | refine below_set ?_ GE345.out) | exact HB.out)))); have n6_ := Aside0.mk (Kd.R_lower (Kd.R_new' (Kd.R_new' (Kd.R_new' (Kd.R_new' (Kd.R_mono (ok' := fun k_ => True) ho1 (fun _ hk_ => trivial)) (Kd.R_lt (by (with_reducible repeat (first | apply Kd.R_alloc | apply Kd.R_drewN | apply Kd.R_drew)); exact (Kd.R_mono (Kd.R_far (p := ⟨gb345, 1, none⟩) (Kd.R_far (p := ⟨gb345, 0, none⟩) (Kd.R_types HO332.out BK345.out (by decide)) (fun _ hk => hk.2) (.slice Ao86 t339.length co86)) (fun _ hk => hk.2) (.slice Ao88 t342.length co88)) (fun _ h_ => h_.1))))) (Kd.R_lt (by (with_reducible repeat (first | apply Kd.R_alloc | apply Kd.R_drewN | apply Kd.R_drew)); exact (Kd.R_mono (Kd.R_far (p := ⟨gb345, 1, none⟩) (Kd.R_far (p := ⟨gb345, 0, none⟩) (Kd.R_types HO335.out BK345.out (by decide)) (fun _ hk => hk.2) (.slice Ao86 t339.length co86)) (fun _ hk => hk.2) (.slice Ao88 t342.length co88)) (fun _ h_ => h_.1))))) (Kd.R_lt (by (with_reducible repeat (first | apply Kd.R_alloc | apply Kd.R_drewN | apply Kd.R_drew)); exact (Kd.R_mono (Kd.R_far (p := ⟨gb345, 1, none⟩) (Kd.R_far (p := ⟨gb345, 0, none⟩) (Kd.R_types HO341.out BK345.out (by decide)) (fun _ hk => hk.2) (.slice Ao86 t339.length co86)) (fun _ hk => hk.2) (.slice Ao88 t342.length co88)) (fun _ h_ => h_.1))))) (Kd.R_lt (by (with_reducible repeat (first | apply Kd.R_alloc | apply Kd.R_drewN | apply Kd.R_drew)); exact (Kd.R_mono (Kd.R_far (p := ⟨gb345, 1, none⟩) (Kd.R_far (p := ⟨gb345, 0, none⟩) (Kd.R_types HO344.out BK345.out (by decide)) (fun _ hk => hk.2) (.slice Ao86 t339.length co86)) (fun _ hk => hk.2) (.slice Ao88 t342.length co88)) (fun _ h_ => h_.1))))) (below_size (by repeat (first | (with_reducible first | exact HB.out | apply below_alloc | apply pw_below_drewN | apply below_drew1 | refine below_set ?_ GE337.out | refine below_set ?_ GE345.out) | exact HB.out)))); have n7_ := Aside0.mk (Kd.V_lower (Kd.V_mono (ok' := fun k_ => some k_ ≠ (v350 : Value).ownBlock ∧ some k_ ≠ (v357 : Value).ownBlock ∧ some k_ ≠ (.slice Ao72 t296.length co72 : Value).ownBlock ∧ some k_ ≠ (.slice Ao78 t330.length co78 : Value).ownBlock ∧ some k_ ≠ (.slice Ao80 t333.length co80 : Value).ownBlock ∧ some k_ ≠ (.slice Ao86 t339.length co86 : Value).ownBlock ∧ some k_ ≠ (.slice Ao88 t342.length co88 : Value).ownBlock ∧ k_ ≠ gb337 ∧ k_ ≠ gb345) ho2 (fun k_ hk_ => ⟨hk_.2.1, hk_.2.2, (Kd.fresh' (Kd.N_lt (by (with_reducible repeat (first | apply Kd.N_alloc | apply Kd.N_drewN | apply Kd.N_drew)); exact (Kd.N_mono (Kd.N_far (p := ⟨gb345, 1, none⟩) (Kd.N_far (p := ⟨gb345, 0, none⟩) (Kd.N_mono HO_1.out (fun k_ hk => (⟨hk, hk.2.2.2.2.2.2⟩ : _ ∧ k_ ≠ gb345))) (fun _ hk => hk.2) (.slice Ao86 t339.length co86)) (fun _ hk => hk.2) (.slice Ao88 t342.length co88)) (fun _ h_ => h_.1)))) k_ hk_.1), (Kd.fresh' (Kd.R_lt (by (with_reducible repeat (first | apply Kd.R_alloc | apply Kd.R_drewN | apply Kd.R_drew)); exact (Kd.R_mono (Kd.R_far (p := ⟨gb345, 1, none⟩) (Kd.R_far (p := ⟨gb345, 0, none⟩) (Kd.R_types HO332.out BK345.out (by decide)) (fun _ hk => hk.2) (.slice Ao86 t339.length co86)) (fun _ hk => hk.2) (.slice Ao88 t342.length co88)) (fun _ h_ => h_.1)))) k_ hk_.1), (Kd.fresh' (Kd.R_lt (by (with_reducible repeat (first | apply Kd.R_alloc | apply Kd.R_drewN | apply Kd.R_drew)); exact (Kd.R_mono (Kd.R_far (p := ⟨gb345, 1, none⟩) (Kd.R_far (p := ⟨gb345, 0, none⟩) (Kd.R_types HO335.out BK345.out (by decide)) (fun _ hk => hk.2) (.slice Ao86 t339.length co86)) (fun _ hk => hk.2) (.slice Ao88 t342.length co88)) (fun _ h_ => h_.1)))) k_ hk_.1), (Kd.fresh' (Kd.R_lt (by (with_reducible repeat (first | apply Kd.R_alloc | apply Kd.R_drewN | apply Kd.R_drew)); exact (Kd.R_mono (Kd.R_far (p := ⟨gb345, 1, none⟩) (Kd.R_far (p := ⟨gb345, 0, none⟩) (Kd.R_types HO341.out BK345.out (by decide)) (fun _ hk => hk.2) (.slice Ao86 t339.length co86)) (fun _ hk => hk.2) (.slice Ao88 t342.length co88)) (fun _ h_ => h_.1)))) k_ hk_.1), (Kd.fresh' (Kd.R_lt (by (with_reducible repeat (first | apply Kd.R_alloc | apply Kd.R_drewN | apply Kd.R_drew)); exact (Kd.R_mono (Kd.R_far (p := ⟨gb345, 1, none⟩) (Kd.R_far (p := ⟨gb345, 0, none⟩) (Kd.R_types HO344.out BK345.out (by decide)) (fun _ hk => hk.2) (.slice Ao86 t339.length co86)) (fun _ hk => hk.2) (.slice Ao88 t342.length co88)) (fun _ h_ => h_.1)))) k_ hk_.1), (Kd.freshB (g := gb337) (o := .cells #[.slice Ao78 t330.length co78, .slice Ao80 t333.length co80] 24 (0, 0)) (by (with_reducible repeat (first | refine blk_drewN ?_ _ | refine blk_drew ?_ | refine blk_alloc ?_ _)); refine blk_far ?_ NB337_345.out _; (with_reducible repeat (first | refine blk_drewN ?_ _ | refine blk_drew ?_ | refine blk_alloc ?_ _)); refine blk_far ?_ NB337_345.out _; (with_reducible repeat (first | refine blk_drewN ?_ _ | refine blk_drew ?_ | refine blk_alloc ?_ _)); exact BK337.out) k_ hk_.1), (Kd.freshB (g := gb345) (o := .cells #[.slice Ao86 t339.length co86, .slice Ao88 t342.length co88] 24 (0, 0)) (by (with_reducible repeat (first | refine blk_drewN ?_ _ | refine blk_drew ?_ | refine blk_alloc ?_ _)); refine blk_put (cs := #[.slice Ao86 t339.length co86, .slice none 0 0]) ?_ 1 _ rfl; (with_reducible repeat (first | refine blk_drewN ?_ _ | refine blk_drew ?_ | refine blk_alloc ?_ _)); refine blk_put (cs := #[.slice none 0 0, .slice none 0 0]) ?_ 0 _ rfl; (with_reducible repeat (first | refine blk_drewN ?_ _ | refine blk_drew ?_ | refine blk_alloc ?_ _)); exact BK345.out) k_ hk_.1)⟩)) (below_size (by repeat (first | (with_reducible first | exact HB.out | apply below_alloc | apply pw_below_drewN | apply below_drew1 | refine below_set ?_ GE337.out | refine below_set ?_ GE345.out) | exact HB.out)))); have n8_ := Aside0.mk (Kd.N_lower (Kd.N_mono (ok' := fun k_ => some k_ ≠ (v350 : Value).ownBlock ∧ some k_ ≠ (.slice Ao72 t296.length co72 : Value).ownBlock ∧ some k_ ≠ (.slice Ao78 t330.length co78 : Value).ownBlock ∧ some k_ ≠ (.slice Ao80 t333.length co80 : Value).ownBlock ∧ some k_ ≠ (.slice Ao86 t339.length co86 : Value).ownBlock ∧ some k_ ≠ (.slice Ao88 t342.length co88 : Value).ownBlock ∧ k_ ≠ gb337 ∧ k_ ≠ gb345) ho3 (fun k_ hk_ => ⟨hk_.2, (Kd.fresh' (Kd.N_lt (by (with_reducible repeat (first | apply Kd.N_alloc | apply Kd.N_drewN | apply Kd.N_drew)); exact (Kd.N_mono (Kd.N_far (p := ⟨gb345, 1, none⟩) (Kd.N_far (p := ⟨gb345, 0, none⟩) (Kd.N_mono HO_1.out (fun k_ hk => (⟨hk, hk.2.2.2.2.2.2⟩ : _ ∧ k_ ≠ gb345))) (fun _ hk => hk.2) (.slice Ao86 t339.length co86)) (fun _ hk => hk.2) (.slice Ao88 t342.length co88)) (fun _ h_ => h_.1)))) k_ hk_.1), (Kd.fresh' (Kd.R_lt (by (with_reducible repeat (first | apply Kd.R_alloc | apply Kd.R_drewN | apply Kd.R_drew)); exact (Kd.R_mono (Kd.R_far (p := ⟨gb345, 1, none⟩) (Kd.R_far (p := ⟨gb345, 0, none⟩) (Kd.R_types HO332.out BK345.out (by decide)) (fun _ hk => hk.2) (.slice Ao86 t339.length co86)) (fun _ hk => hk.2) (.slice Ao88 t342.length co88)) (fun _ h_ => h_.1)))) k_ hk_.1), (Kd.fresh' (Kd.R_lt (by (with_reducible repeat (first | apply Kd.R_alloc | apply Kd.R_drewN | apply Kd.R_drew)); exact (Kd.R_mono (Kd.R_far (p := ⟨gb345, 1, none⟩) (Kd.R_far (p := ⟨gb345, 0, none⟩) (Kd.R_types HO335.out BK345.out (by decide)) (fun _ hk => hk.2) (.slice Ao86 t339.length co86)) (fun _ hk => hk.2) (.slice Ao88 t342.length co88)) (fun _ h_ => h_.1)))) k_ hk_.1), (Kd.fresh' (Kd.R_lt (by (with_reducible repeat (first | apply Kd.R_alloc | apply Kd.R_drewN | apply Kd.R_drew)); exact (Kd.R_mono (Kd.R_far (p := ⟨gb345, 1, none⟩) (Kd.R_far (p := ⟨gb345, 0, none⟩) (Kd.R_types HO341.out BK345.out (by decide)) (fun _ hk => hk.2) (.slice Ao86 t339.length co86)) (fun _ hk => hk.2) (.slice Ao88 t342.length co88)) (fun _ h_ => h_.1)))) k_ hk_.1), (Kd.fresh' (Kd.R_lt (by (with_reducible repeat (first | apply Kd.R_alloc | apply Kd.R_drewN | apply Kd.R_drew)); exact (Kd.R_mono (Kd.R_far (p := ⟨gb345, 1, none⟩) (Kd.R_far (p := ⟨gb345, 0, none⟩) (Kd.R_types HO344.out BK345.out (by decide)) (fun _ hk => hk.2) (.slice Ao86 t339.length co86)) (fun _ hk => hk.2) (.slice Ao88 t342.length co88)) (fun _ h_ => h_.1)))) k_ hk_.1), (Kd.freshB (g := gb337) (o := .cells #[.slice Ao78 t330.length co78, .slice Ao80 t333.length co80] 24 (0, 0)) (by (with_reducible repeat (first | refine blk_drewN ?_ _ | refine blk_drew ?_ | refine blk_alloc ?_ _)); refine blk_far ?_ NB337_345.out _; (with_reducible repeat (first | refine blk_drewN ?_ _ | refine blk_drew ?_ | refine blk_alloc ?_ _)); refine blk_far ?_ NB337_345.out _; (with_reducible repeat (first | refine blk_drewN ?_ _ | refine blk_drew ?_ | refine blk_alloc ?_ _)); exact BK337.out) k_ hk_.1), (Kd.freshB (g := gb345) (o := .cells #[.slice Ao86 t339.length co86, .slice Ao88 t342.length co88] 24 (0, 0)) (by (with_reducible repeat (first | refine blk_drewN ?_ _ | refine blk_drew ?_ | refine blk_alloc ?_ _)); refine blk_put (cs := #[.slice Ao86 t339.length co86, .slice none 0 0]) ?_ 1 _ rfl; (with_reducible repeat (first | refine blk_drewN ?_ _ | refine blk_drew ?_ | refine blk_alloc ?_ _)); refine blk_put (cs := #[.slice none 0 0, .slice none 0 0]) ?_ 0 _ rfl; (with_reducible repeat (first | refine blk_drewN ?_ _ | refine blk_drew ?_ | refine blk_alloc ?_ _)); exact BK345.out) k_ hk_.1)⟩)) (below_size (by repeat (first | (with_reducible first | exact HB.out | apply below_alloc | apply pw_below_drewN | apply below_drew1 | refine below_set ?_ GE337.out | refine below_set ?_ GE345.out) | exact HB.out)))); have n9_ := Aside0.mk (blk_below (g := gb337) (o := .cells #[.slice Ao78 t330.length co78, .slice Ao80 t333.length co80] 24 (0, 0)) (by (with_reducible repeat (first | refine blk_drewN ?_ _ | refine blk_drew ?_ | refine blk_alloc ?_ _)); refine blk_far ?_ NB337_345.out _; (with_reducible repeat (first | refine blk_drewN ?_ _ | refine blk_drew ?_ | refine blk_alloc ?_ _)); refine blk_far ?_ NB337_345.out _; (with_reducible repeat (first | refine blk_drewN ?_ _ | refine blk_drew ?_ | refine blk_alloc ?_ _)); exact BK337.out) hb); have n10_ := Aside0.mk (blk_below (g := gb345) (o := .cells #[.slice Ao86 t339.length co86, .slice Ao88 t342.length co88] 24 (0, 0)) (by (with_reducible repeat (first | refine blk_drewN ?_ _ | refine blk_drew ?_ | refine blk_alloc ?_ _)); refine blk_put (cs := #[.slice Ao86 t339.length co86, .slice none 0 0]) ?_ 1 _ rfl; (with_reducible repeat (first | refine blk_drewN ?_ _ | refine blk_drew ?_ | refine blk_alloc ?_ _)); refine blk_put (cs := #[.slice none 0 0, .slice none 0 0]) ?_ 0 _ rfl; (with_reducible repeat (first | refine blk_drewN ?_ _ | refine blk_drew ?_ | refine blk_alloc ?_ _)); exact BK345.out) hb); have n11_ := Aside0.mk (below_step (by repeat (first | (with_reducible first | exact HB.out | apply below_alloc | apply pw_below_drewN | apply below_drew1 | refine below_set ?_ GE337.out | refine below_set ?_ GE345.out) | exact HB.out)) hb); clear HO_1; clear HO332; clear HO335; clear HO341; clear HO344; clear BK337; clear BK345; clear HB; have HO_1 := n0_; have HO332 := n1_; have HO335 := n2_; have HO341 := n3_; have HO344 := n4_; have HO348 := n5_; have HO351 := n6_; have HO354 := n7_; have HO358 := n8_; have BK337 := n9_; have BK345 := n10_; have HB := n11_; clear n0_ n1_ n2_ n3_ n4_ n5_ n6_ n7_ n8_ n9_ n10_ n11_; (try clear hb); (try clear hb2); (try clear hk); (try clear hi); (try clear ho0); (try clear ho1); (try clear ho2); (try clear ho3)) | ((with_reducible refine gate_dst (N := 18) rfl ?_); (try (refine gate_guard (by rfl) ?_; dsimp only)); refine box_event ?hg (N := 18) ?hd (cs := #[.slice none 0 0, .slice none 0 0]) (t := 24) ?hr ?_; (case hd => rfl); (case hg => rfl); (case hr => first | (go_simp; done) | (go_simp; rfl)); intro gb359 hg w93 hbox hb; have n0_ := Aside0.mk (Kd.N_below (Kd.N_elderB (by exact pN HO_1.out) gb359 (Nat.le_of_eq hg.symm)) hb); have n1_ := Aside0.mk (Kd.R_below (by exact pR HO332.out) hb); have n2_ := Aside0.mk (Kd.R_below (by exact pR HO335.out) hb); have n3_ := Aside0.mk (Kd.V_below (Kd.V_elderB (by exact pV HO348.out) gb359 (Nat.le_of_eq hg.symm)) hb); have n4_ := Aside0.mk (Kd.R_below (by exact pR HO351.out) hb); have n5_ := Aside0.mk (Kd.V_below (Kd.V_elderB (by exact pV HO354.out) gb359 (Nat.le_of_eq hg.symm)) hb); have n6_ := Aside0.mk (Kd.N_below (Kd.N_elderB (by exact pN HO358.out) gb359 (Nat.le_of_eq hg.symm)) hb); have n7_ := Aside0.mk (blk_below (g := gb337) (o := .cells #[.slice Ao78 t330.length co78, .slice Ao80 t333.length co80] 24 (0, 0)) (by exact pK BK337.out) hb); have n8_ := Aside0.mk (below_step (by exact pB HB.out) hb); have n9_ := Aside0.mk (hbox); have n10_ := Aside0.mk ((by rw [hg]; exact (below_size (by exact pB HB.out)) : w.heap.size ≤ gb359)); have n11_ := Aside0.mk ((by rw [hg]; exact (below_size (by exact pB HB.out)) : w.heap.size ≤ gb359)); have n12_ := Aside0.mk ((by rw [hg]; exact Nat.ne_of_lt (blk_lt (g := gb337) (o := .cells #[.slice Ao78 t330.length co78, .slice Ao80 t333.length co80] 24 (0, 0)) (by exact pK BK337.out)) : gb337 ≠ gb359)); have n13_ := Aside0.mk ((by rw [hg]; exact Nat.ne_of_gt (blk_lt (g := gb337) (o := .cells #[.slice Ao78 t330.length co78, .slice Ao80 t333.length co80] 24 (0, 0)) (by exact pK BK337.out)) : gb359 ≠ gb337)); clear HO_1; clear HO332; clear HO335; clear HO348; clear HO351; clear HO354; clear HO358; clear BK337; clear HB; have HO_1 := n0_; have HO332 := n1_; have HO335 := n2_; have HO348 := n3_; have HO351 := n4_; have HO354 := n5_; have HO358 := n6_; have BK337 := n7_; have HB := n8_; have BK359 := n9_; have GW359 := n10_; have GE359 := n11_; have NB337_359 := n12_; have NB359_337 := n13_; clear n0_ n1_ n2_ n3_ n4_ n5_ n6_ n7_ n8_ n9_ n10_ n11_ n12_ n13_; clear hb hbox hg; obtain ⟨Ao94, co94, eo94⟩ := Kd.V_slice HO348.out; subst eo94; have hnb95 := NB359_337.out; have hnc95 := NB337_359.out; have hcz96_0 : w93.cell? ⟨gb359, 0, none⟩ = some (.slice none 0 0) := (blk_cell BK359.out 0).trans rfl; have hcz96_1 : w93.cell? ⟨gb359, 1, none⟩ = some (.slice none 0 0) := (blk_cell BK359.out 1).trans rfl; have hfz96_0 := blk_frozen BK359.out 0; have hfz96_1 := blk_frozen BK359.out 1; obtain ⟨Ao97, co97, eo97⟩ := Kd.R_slice HO351.out; subst eo97; have hcz98_0 : w93.cell? ⟨gb337, 0, none⟩ = some (.slice Ao78 t330.length co78) := (blk_cell BK337.out 0).trans rfl; have hcz98_1 : w93.cell? ⟨gb337, 1, none⟩ = some (.slice Ao80 t333.length co80) := (blk_cell BK337.out 1).trans rfl; have hfz98_0 := blk_frozen BK337.out 0; have hfz98_1 := blk_frozen BK337.out 1) | ((with_reducible refine gate_callee (f := 15) rfl ?_); refine goesL_ (some 101) rfl rfl Try.func15 (by kernel_rfl) rfl #[.agg #[.slice Ao78 t330.length co78, .slice Ao80 t333.length co80]] rfl (by (try simp only [List.map_toArray, List.map_cons, List.map_nil]); first | done | rfl | (simp only [List.length_drop, List.length_take]; rfl)) ?_; (with_reducible refine (disk_Sync.calls _ _ t330 _ _ t333 t360 t363 _ ?side1 ?side2 ?side3 ?side4 A58.out).mono ?_); (case side1 => refine (Kd.R_reads' (e := 5) (base := w.heap.size) (ok := fun k_ => ((some k_ ≠ (.slice Ao80 t333.length co80 : Value).ownBlock ∧ (some k_ ≠ (.slice Ao86 t339.length co86 : Value).ownBlock ∧ some k_ ≠ (.slice Ao88 t342.length co88 : Value).ownBlock)) ∧ some k_ ≠ (.slice Ao97 t349.length co97 : Value).ownBlock)) (n := t330.length) (c := co78) ?_).2.2; exact (by (with_reducible repeat (first | apply Kd.R_alloc | apply Kd.R_drewN | apply Kd.R_drew)); exact (Kd.R_mono (Kd.R_far (p := ⟨gb359, 1, none⟩) (Kd.R_far (p := ⟨gb359, 0, none⟩) (Kd.R_types HO332.out BK359.out (by decide)) (fun _ hk => hk.2) (.slice Ao94 t346.length co94)) (fun _ hk => hk.2) (.slice Ao97 t349.length co97)) (fun _ h_ => h_.1)))); (case side2 => exact (Kd.R_reads' HO332.out).2.1); (case side3 => refine (Kd.R_reads' (e := 5) (base := w.heap.size) (ok := fun k_ => ((some k_ ≠ (.slice Ao78 t330.length co78 : Value).ownBlock ∧ (some k_ ≠ (.slice Ao86 t339.length co86 : Value).ownBlock ∧ some k_ ≠ (.slice Ao88 t342.length co88 : Value).ownBlock)) ∧ some k_ ≠ (.slice Ao97 t349.length co97 : Value).ownBlock)) (n := t333.length) (c := co80) ?_).2.2; exact (by (with_reducible repeat (first | apply Kd.R_alloc | apply Kd.R_drewN | apply Kd.R_drew)); exact (Kd.R_mono (Kd.R_far (p := ⟨gb359, 1, none⟩) (Kd.R_far (p := ⟨gb359, 0, none⟩) (Kd.R_types HO335.out BK359.out (by decide)) (fun _ hk => hk.2) (.slice Ao94 t346.length co94)) (fun _ hk => hk.2) (.slice Ao97 t349.length co97)) (fun _ h_ => h_.1)))); (case side4 => exact (Kd.R_reads' HO335.out).2.1); rintro e w99 ⟨v361, v364, rfl, ho0, ho1, hb⟩; refine ⟨_, rfl, ?_⟩; have n0_ := Aside0.mk (Kd.N_mono (Kd.N_told (Kd.N_told (Kd.N_old (by (with_reducible repeat (first | apply Kd.N_alloc | apply Kd.N_drewN | apply Kd.N_drew)); exact (Kd.N_mono (Kd.N_far (p := ⟨gb359, 1, none⟩) (Kd.N_far (p := ⟨gb359, 0, none⟩) (Kd.N_mono HO_1.out (fun k_ hk => (⟨hk, hk.2⟩ : _ ∧ k_ ≠ gb359))) (fun _ hk => hk.2) (.slice Ao94 t346.length co94)) (fun _ hk => hk.2) (.slice Ao97 t349.length co97)) (fun _ h_ => h_.1))) hb) (Kd.R_base ho0)) (Kd.R_base ho1)) (fun _ h_ => h_.1)); have n1_ := Aside0.mk (Kd.R_mono (Kd.R_told (Kd.R_told (Kd.R_old (by (with_reducible repeat (first | apply Kd.R_alloc | apply Kd.R_drewN | apply Kd.R_drew)); exact (Kd.R_mono (Kd.R_far (p := ⟨gb359, 1, none⟩) (Kd.R_far (p := ⟨gb359, 0, none⟩) (Kd.R_types HO332.out BK359.out (by decide)) (fun _ hk => hk.2) (.slice Ao94 t346.length co94)) (fun _ hk => hk.2) (.slice Ao97 t349.length co97)) (fun _ h_ => h_.1))) hb) (Kd.R_base ho0)) (Kd.R_base ho1)) (fun _ h_ => h_.1)); have n2_ := Aside0.mk (Kd.R_mono (Kd.R_told (Kd.R_told (Kd.R_old (by (with_reducible repeat (first | apply Kd.R_alloc | apply Kd.R_drewN | apply Kd.R_drew)); exact (Kd.R_mono (Kd.R_far (p := ⟨gb359, 1, none⟩) (Kd.R_far (p := ⟨gb359, 0, none⟩) (Kd.R_types HO335.out BK359.out (by decide)) (fun _ hk => hk.2) (.slice Ao94 t346.length co94)) (fun _ hk => hk.2) (.slice Ao97 t349.length co97)) (fun _ h_ => h_.1))) hb) (Kd.R_base ho0)) (Kd.R_base ho1)) (fun _ h_ => h_.1)); have n3_ := Aside0.mk (Kd.V_mono (Kd.V_told (Kd.V_told (Kd.V_old (by (with_reducible repeat (first | apply Kd.V_alloc | apply Kd.V_drewN | apply Kd.V_drew)); exact (Kd.V_mono (Kd.V_far (p := ⟨gb359, 1, none⟩) (Kd.V_far (p := ⟨gb359, 0, none⟩) (Kd.V_mono HO348.out (fun k_ hk => (⟨hk, hk.2⟩ : _ ∧ k_ ≠ gb359))) (fun _ hk => hk.2) (.slice Ao94 t346.length co94)) (fun _ hk => hk.2) (.slice Ao97 t349.length co97)) (fun _ h_ => h_.1))) hb) (Kd.R_base ho0)) (Kd.R_base ho1)) (fun _ h_ => h_.1)); have n4_ := Aside0.mk (Kd.R_mono (Kd.R_told (Kd.R_told (Kd.R_old (by (with_reducible repeat (first | apply Kd.R_alloc | apply Kd.R_drewN | apply Kd.R_drew)); exact (Kd.R_mono (Kd.R_far (p := ⟨gb359, 1, none⟩) (Kd.R_far (p := ⟨gb359, 0, none⟩) (Kd.R_types HO351.out BK359.out (by decide)) (fun _ hk => hk.2) (.slice Ao94 t346.length co94)) (fun _ hk => hk.2) (.slice Ao97 t349.length co97)) (fun _ h_ => h_.1))) hb) (Kd.R_base ho0)) (Kd.R_base ho1)) (fun _ h_ => h_.1)); have n5_ := Aside0.mk (Kd.V_mono (Kd.V_told (Kd.V_told (Kd.V_old (by (with_reducible repeat (first | apply Kd.V_alloc | apply Kd.V_drewN | apply Kd.V_drew)); exact (Kd.V_mono (Kd.V_far (p := ⟨gb359, 1, none⟩) (Kd.V_far (p := ⟨gb359, 0, none⟩) (Kd.V_mono HO354.out (fun k_ hk => (⟨hk, hk.2⟩ : _ ∧ k_ ≠ gb359))) (fun _ hk => hk.2) (.slice Ao94 t346.length co94)) (fun _ hk => hk.2) (.slice Ao97 t349.length co97)) (fun _ h_ => h_.1))) hb) (Kd.R_base ho0)) (Kd.R_base ho1)) (fun _ h_ => h_.1)); have n6_ := Aside0.mk (Kd.N_mono (Kd.N_told (Kd.N_told (Kd.N_old (by (with_reducible repeat (first | apply Kd.N_alloc | apply Kd.N_drewN | apply Kd.N_drew)); exact (Kd.N_mono (Kd.N_far (p := ⟨gb359, 1, none⟩) (Kd.N_far (p := ⟨gb359, 0, none⟩) (Kd.N_mono HO358.out (fun k_ hk => (⟨hk, hk.2⟩ : _ ∧ k_ ≠ gb359))) (fun _ hk => hk.2) (.slice Ao94 t346.length co94)) (fun _ hk => hk.2) (.slice Ao97 t349.length co97)) (fun _ h_ => h_.1))) hb) (Kd.R_base ho0)) (Kd.R_base ho1)) (fun _ h_ => h_.1)); have n7_ := Aside0.mk (Kd.R_lower (Kd.R_new' (Kd.R_new' (Kd.R_new' ho0 (Kd.R_lt (by (with_reducible repeat (first | apply Kd.R_alloc | apply Kd.R_drewN | apply Kd.R_drew)); exact (Kd.R_mono (Kd.R_far (p := ⟨gb359, 1, none⟩) (Kd.R_far (p := ⟨gb359, 0, none⟩) (Kd.R_types HO332.out BK359.out (by decide)) (fun _ hk => hk.2) (.slice Ao94 t346.length co94)) (fun _ hk => hk.2) (.slice Ao97 t349.length co97)) (fun _ h_ => h_.1))))) (Kd.R_lt (by (with_reducible repeat (first | apply Kd.R_alloc | apply Kd.R_drewN | apply Kd.R_drew)); exact (Kd.R_mono (Kd.R_far (p := ⟨gb359, 1, none⟩) (Kd.R_far (p := ⟨gb359, 0, none⟩) (Kd.R_types HO335.out BK359.out (by decide)) (fun _ hk => hk.2) (.slice Ao94 t346.length co94)) (fun _ hk => hk.2) (.slice Ao97 t349.length co97)) (fun _ h_ => h_.1))))) (Kd.R_lt (by (with_reducible repeat (first | apply Kd.R_alloc | apply Kd.R_drewN | apply Kd.R_drew)); exact (Kd.R_mono (Kd.R_far (p := ⟨gb359, 1, none⟩) (Kd.R_far (p := ⟨gb359, 0, none⟩) (Kd.R_types HO351.out BK359.out (by decide)) (fun _ hk => hk.2) (.slice Ao94 t346.length co94)) (fun _ hk => hk.2) (.slice Ao97 t349.length co97)) (fun _ h_ => h_.1))))) (below_size (by repeat (first | (with_reducible first | exact HB.out | apply below_alloc | apply pw_below_drewN | apply below_drew1 | refine below_set ?_ GE337.out | refine below_set ?_ GE359.out) | exact HB.out)))); have n8_ := Aside0.mk (Kd.R_lower (Kd.R_new' (Kd.R_new' (Kd.R_new' ho1 (Kd.R_lt (by (with_reducible repeat (first | apply Kd.R_alloc | apply Kd.R_drewN | apply Kd.R_drew)); exact (Kd.R_mono (Kd.R_far (p := ⟨gb359, 1, none⟩) (Kd.R_far (p := ⟨gb359, 0, none⟩) (Kd.R_types HO332.out BK359.out (by decide)) (fun _ hk => hk.2) (.slice Ao94 t346.length co94)) (fun _ hk => hk.2) (.slice Ao97 t349.length co97)) (fun _ h_ => h_.1))))) (Kd.R_lt (by (with_reducible repeat (first | apply Kd.R_alloc | apply Kd.R_drewN | apply Kd.R_drew)); exact (Kd.R_mono (Kd.R_far (p := ⟨gb359, 1, none⟩) (Kd.R_far (p := ⟨gb359, 0, none⟩) (Kd.R_types HO335.out BK359.out (by decide)) (fun _ hk => hk.2) (.slice Ao94 t346.length co94)) (fun _ hk => hk.2) (.slice Ao97 t349.length co97)) (fun _ h_ => h_.1))))) (Kd.R_lt (by (with_reducible repeat (first | apply Kd.R_alloc | apply Kd.R_drewN | apply Kd.R_drew)); exact (Kd.R_mono (Kd.R_far (p := ⟨gb359, 1, none⟩) (Kd.R_far (p := ⟨gb359, 0, none⟩) (Kd.R_types HO351.out BK359.out (by decide)) (fun _ hk => hk.2) (.slice Ao94 t346.length co94)) (fun _ hk => hk.2) (.slice Ao97 t349.length co97)) (fun _ h_ => h_.1))))) (below_size (by repeat (first | (with_reducible first | exact HB.out | apply below_alloc | apply pw_below_drewN | apply below_drew1 | refine below_set ?_ GE337.out | refine below_set ?_ GE359.out) | exact HB.out)))); have n9_ := Aside0.mk (blk_below (g := gb337) (o := .cells #[.slice Ao78 t330.length co78, .slice Ao80 t333.length co80] 24 (0, 0)) (by (with_reducible repeat (first | refine blk_drewN ?_ _ | refine blk_drew ?_ | refine blk_alloc ?_ _)); refine blk_far ?_ NB337_359.out _; (with_reducible repeat (first | refine blk_drewN ?_ _ | refine blk_drew ?_ | refine blk_alloc ?_ _)); refine blk_far ?_ NB337_359.out _; (with_reducible repeat (first | refine blk_drewN ?_ _ | refine blk_drew ?_ | refine blk_alloc ?_ _)); exact BK337.out) hb); have n10_ := Aside0.mk (blk_below (g := gb359) (o := .cells #[.slice Ao94 t346.length co94, .slice Ao97 t349.length co97] 24 (0, 0)) (by (with_reducible repeat (first | refine blk_drewN ?_ _ | refine blk_drew ?_ | refine blk_alloc ?_ _)); refine blk_put (cs := #[.slice Ao94 t346.length co94, .slice none 0 0]) ?_ 1 _ rfl; (with_reducible repeat (first | refine blk_drewN ?_ _ | refine blk_drew ?_ | refine blk_alloc ?_ _)); refine blk_put (cs := #[.slice none 0 0, .slice none 0 0]) ?_ 0 _ rfl; (with_reducible repeat (first | refine blk_drewN ?_ _ | refine blk_drew ?_ | refine blk_alloc ?_ _)); exact BK359.out) hb); have n11_ := Aside0.mk (below_step (by repeat (first | (with_reducible first | exact HB.out | apply below_alloc | apply pw_below_drewN | apply below_drew1 | refine below_set ?_ GE337.out | refine below_set ?_ GE359.out) | exact HB.out)) hb); clear HO_1; clear HO332; clear HO335; clear HO348; clear HO351; clear HO354; clear HO358; clear BK337; clear BK359; clear HB; have HO_1 := n0_; have HO332 := n1_; have HO335 := n2_; have HO348 := n3_; have HO351 := n4_; have HO354 := n5_; have HO358 := n6_; have HO362 := n7_; have HO365 := n8_; have BK337 := n9_; have BK359 := n10_; have HB := n11_; clear n0_ n1_ n2_ n3_ n4_ n5_ n6_ n7_ n8_ n9_ n10_ n11_; (try clear hb); (try clear hb2); (try clear hk); (try clear hi); (try clear ho0); (try clear ho1); obtain ⟨Ao100, co100, eo100⟩ := Kd.R_slice HO362.out; subst eo100; obtain ⟨Ao101, co101, eo101⟩ := Kd.R_slice HO365.out; subst eo101) | ((with_reducible refine gate_callee (f := 38) rfl ?_); refine goesL_ (some 102) rfl rfl Try.func38 (by kernel_rfl) rfl #[.agg #[.slice Ao100 t360.length co100, .slice Ao101 t363.length co101]] rfl (by (try simp only [List.map_toArray, List.map_cons, List.map_nil]); first | done | rfl | (simp only [List.length_drop, List.length_take]; rfl)) ?_; (with_reducible refine (journal_Open.calls k3 _ _ t360 _ _ t363 t366 t369 t372 true t376 _ ?side1 ?side2 ?side3 ?side4 A59.out).mono ?_); (case side1 => exact pC (Kd.R_reads' HO362.out).2.2); (case side2 => exact (Kd.R_reads' HO362.out).2.1); (case side3 => exact pC (Kd.R_reads' HO365.out).2.2); (case side4 => exact (Kd.R_reads' HO365.out).2.1); rintro e w102 ⟨v367, v370, v373, v377, rfl, ho0, ho1, ho2, ho3, hb⟩; refine ⟨_, rfl, ?_⟩; have n0_ := Aside0.mk (Kd.N_mono (Kd.N_told (Kd.N_told (Kd.N_old (by exact pN HO_1.out) hb) (Kd.R_base ho1)) (Kd.N_base ho3)) (fun _ h_ => h_.1)); have n1_ := Aside0.mk (Kd.V_mono (Kd.V_told (Kd.V_told (Kd.V_old (by exact pV HO354.out) hb) (Kd.R_base ho1)) (Kd.N_base ho3)) (fun _ h_ => h_.1)); have n2_ := Aside0.mk (Kd.N_mono (Kd.N_told (Kd.N_told (Kd.N_old (by exact pN HO358.out) hb) (Kd.R_base ho1)) (Kd.N_base ho3)) (fun _ h_ => h_.1)); have n3_ := Aside0.mk (Kd.R_elder' (by exact pR HO362.out) (Kd.R_base ho1) hb); have n4_ := Aside0.mk (Kd.R_elder' (by exact pR HO365.out) (Kd.R_base ho1) hb); have n5_ := Aside0.mk (Kd.V_lower (Kd.V_mono (ok' := fun k_ => some k_ ≠ (v370 : Value).ownBlock ∧ some k_ ≠ (v377 : Value).ownBlock ∧ some k_ ≠ (.slice Ao72 t296.length co72 : Value).ownBlock ∧ some k_ ≠ (v357 : Value).ownBlock ∧ some k_ ≠ (.slice Ao100 t360.length co100 : Value).ownBlock ∧ some k_ ≠ (.slice Ao101 t363.length co101 : Value).ownBlock) ho0 (fun k_ hk_ => ⟨hk_.2.1, hk_.2.2, (Kd.fresh' (Kd.N_lt (by exact pN HO_1.out)) k_ hk_.1), (Kd.fresh' (Kd.N_lt (by exact pN HO358.out)) k_ hk_.1), (Kd.fresh' (Kd.R_lt (by exact pR HO362.out)) k_ hk_.1), (Kd.fresh' (Kd.R_lt (by exact pR HO365.out)) k_ hk_.1)⟩)) (below_size (by exact pB HB.out))); have n6_ := Aside0.mk (Kd.R_lower (Kd.R_new' (Kd.R_new' (Kd.R_mono (ok' := fun k_ => True) ho1 (fun _ hk_ => trivial)) (Kd.R_lt (by exact pR HO362.out))) (Kd.R_lt (by exact pR HO365.out))) (below_size (by exact pB HB.out))); have n7_ := Aside0.mk (Kd.V_lower (Kd.V_mono (ok' := fun k_ => some k_ ≠ (v370 : Value).ownBlock ∧ some k_ ≠ (v377 : Value).ownBlock ∧ some k_ ≠ (.slice Ao72 t296.length co72 : Value).ownBlock ∧ some k_ ≠ (v357 : Value).ownBlock ∧ some k_ ≠ (.slice Ao100 t360.length co100 : Value).ownBlock ∧ some k_ ≠ (.slice Ao101 t363.length co101 : Value).ownBlock) ho2 (fun k_ hk_ => ⟨hk_.2.1, hk_.2.2, (Kd.fresh' (Kd.N_lt (by exact pN HO_1.out)) k_ hk_.1), (Kd.fresh' (Kd.N_lt (by exact pN HO358.out)) k_ hk_.1), (Kd.fresh' (Kd.R_lt (by exact pR HO362.out)) k_ hk_.1), (Kd.fresh' (Kd.R_lt (by exact pR HO365.out)) k_ hk_.1)⟩)) (below_size (by exact pB HB.out))); have n8_ := Aside0.mk (Kd.N_lower (Kd.N_mono (ok' := fun k_ => some k_ ≠ (v370 : Value).ownBlock ∧ some k_ ≠ (.slice Ao72 t296.length co72 : Value).ownBlock ∧ some k_ ≠ (v357 : Value).ownBlock ∧ some k_ ≠ (.slice Ao100 t360.length co100 : Value).ownBlock ∧ some k_ ≠ (.slice Ao101 t363.length co101 : Value).ownBlock) ho3 (fun k_ hk_ => ⟨hk_.2, (Kd.fresh' (Kd.N_lt (by exact pN HO_1.out)) k_ hk_.1), (Kd.fresh' (Kd.N_lt (by exact pN HO358.out)) k_ hk_.1), (Kd.fresh' (Kd.R_lt (by exact pR HO362.out)) k_ hk_.1), (Kd.fresh' (Kd.R_lt (by exact pR HO365.out)) k_ hk_.1)⟩)) (below_size (by exact pB HB.out))); have n9_ := Aside0.mk (below_step (by exact pB HB.out) hb); clear HO_1; clear HO354; clear HO358; clear HO362; clear HO365; clear HB; have HO_1 := n0_; have HO354 := n1_; have HO358 := n2_; have HO362 := n3_; have HO365 := n4_; have HO368 := n5_; have HO371 := n6_; have HO374 := n7_; have HO378 := n8_; have HB := n9_; clear n0_ n1_ n2_ n3_ n4_ n5_ n6_ n7_ n8_ n9_; (try clear hb); (try clear hb2); (try clear hk); (try clear hi); (try clear ho0); (try clear ho1); (try clear ho2); (try clear ho3)) | ((with_reducible refine gate_dst (N := 22) rfl ?_); (try (refine gate_guard (by rfl) ?_; dsimp only)); refine box_event ?hg (N := 22) ?hd (cs := #[.slice none 0 0, .slice none 0 0]) (t := 24) ?hr ?_; (case hd => rfl); (case hg => rfl); (case hr => first | (go_simp; done) | (go_simp; rfl)); intro gb379 hg w103 hbox hb; have n0_ := Aside0.mk (Kd.N_below (Kd.N_elderB (by exact pN HO_1.out) gb379 (Nat.le_of_eq hg.symm)) hb); have n1_ := Aside0.mk (Kd.V_below (Kd.V_elderB (by exact pV HO354.out) gb379 (Nat.le_of_eq hg.symm)) hb); have n2_ := Aside0.mk (Kd.N_below (Kd.N_elderB (by exact pN HO358.out) gb379 (Nat.le_of_eq hg.symm)) hb); have n3_ := Aside0.mk (Kd.V_below (Kd.V_elderB (by exact pV HO368.out) gb379 (Nat.le_of_eq hg.symm)) hb); have n4_ := Aside0.mk (Kd.R_below (by exact pR HO371.out) hb); have n5_ := Aside0.mk (Kd.V_below (Kd.V_elderB (by exact pV HO374.out) gb379 (Nat.le_of_eq hg.symm)) hb); have n6_ := Aside0.mk (Kd.N_below (Kd.N_elderB (by exact pN HO378.out) gb379 (Nat.le_of_eq hg.symm)) hb); have n7_ := Aside0.mk (below_step (by exact pB HB.out) hb); have n8_ := Aside0.mk (hbox); have n9_ := Aside0.mk ((by rw [hg]; exact (below_size (by exact pB HB.out)) : w.heap.size ≤ gb379)); have n10_ := Aside0.mk ((by rw [hg]; exact (below_size (by exact pB HB.out)) : w.heap.size ≤ gb379)); clear HO_1; clear HO354; clear HO358; clear HO368; clear HO371; clear HO374; clear HO378; clear HB; have HO_1 := n0_; have HO354 := n1_; have HO358 := n2_; have HO368 := n3_; have HO371 := n4_; have HO374 := n5_; have HO378 := n6_; have HB := n7_; have BK379 := n8_; have GW379 := n9_; have GE379 := n10_; clear n0_ n1_ n2_ n3_ n4_ n5_ n6_ n7_ n8_ n9_ n10_; clear hb hbox hg; obtain ⟨Ao104, co104, eo104⟩ := Kd.V_slice HO368.out; subst eo104; have hcz105_0 : w103.cell? ⟨gb379, 0, none⟩ = some (.slice none 0 0) := (blk_cell BK379.out 0).trans rfl; have hcz105_1 : w103.cell? ⟨gb379, 1, none⟩ = some (.slice none 0 0) := (blk_cell BK379.out 1).trans rfl; have hfz105_0 := blk_frozen BK379.out 0; have hfz105_1 := blk_frozen BK379.out 1; obtain ⟨Ao106, co106, eo106⟩ := Kd.R_slice HO371.out; subst eo106; obtain ⟨Ao107, co107, eo107⟩ := Kd.V_slice HO354.out; subst eo107) | (go_at_call 17; (with_reducible refine (customsref33_SameBytes.calls _ _ t352 _ _ l2 true _ ?side1 ?side2 ?side3 ?side4 A63.out).mono ?_); (case side1 => refine (Kd.V_reads' (e := 5) (base := w.heap.size) (ok := fun k_ => (((((((some k_ ≠ (.slice Ao97 t349.length co97 : Value).ownBlock ∧ (some k_ ≠ (v357 : Value).ownBlock ∧ (some k_ ≠ (.slice Ao72 t296.length co72 : Value).ownBlock ∧ (some k_ ≠ (.slice Ao78 t330.length co78 : Value).ownBlock ∧ (some k_ ≠ (.slice Ao80 t333.length co80 : Value).ownBlock ∧ (some k_ ≠ (.slice Ao86 t339.length co86 : Value).ownBlock ∧ (some k_ ≠ (.slice Ao88 t342.length co88 : Value).ownBlock ∧ (k_ ≠ gb337 ∧ k_ ≠ gb345)))))))) ∧ k_ ≠ gb359) ∧ some k_ ≠ (.slice Ao100 t360.length co100 : Value).ownBlock) ∧ some k_ ≠ (.slice Ao101 t363.length co101 : Value).ownBlock) ∧ some k_ ≠ (.slice Ao106 t369.length co106 : Value).ownBlock) ∧ some k_ ≠ (v377 : Value).ownBlock) ∧ k_ ≠ gb379)) (n := t352.length) (c := co107) ?_).2.2; exact (by (with_reducible repeat (first | apply Kd.V_alloc | apply Kd.V_drewN | apply Kd.V_drew)); exact (Kd.V_mono (Kd.V_far (p := ⟨gb379, 1, none⟩) (Kd.V_far (p := ⟨gb379, 0, none⟩) (Kd.V_mono HO354.out (fun k_ hk => (⟨hk, hk.2⟩ : _ ∧ k_ ≠ gb379))) (fun _ hk => hk.2) (.slice Ao104 t366.length co104)) (fun _ hk => hk.2) (.slice Ao106 t369.length co106)) (fun _ h_ => h_.1)))); (case side2 => exact (Kd.V_reads' HO354.out).2.1); (case side3 => exact Kd.C_below HR2.out (by repeat (first | (with_reducible first | exact HB.out | apply below_alloc | apply pw_below_drewN | apply below_drew1 | refine below_set ?_ GE379.out) | exact HB.out))); (case side4 => exact HC2.out); rintro e w' ⟨rfl, ⟨nd, rfl⟩⟩; obtain ⟨Ao108, co108, eo108⟩ := Kd.N_slice HO358.out; subst eo108) | (go_at_call 40; (with_reducible refine (customsref33_SameRecords.calls k3 _ _ t356 _ _ t296 true _ ?side1 ?side2 ?side3 ?side4 A65.out).mono ?_); (case side1 => refine (Kd.N_reads' (e := 22) (base := w.heap.size) (ok := fun k_ => (((((((some k_ ≠ (.slice Ao97 t349.length co97 : Value).ownBlock ∧ (some k_ ≠ (.slice Ao72 t296.length co72 : Value).ownBlock ∧ (some k_ ≠ (.slice Ao78 t330.length co78 : Value).ownBlock ∧ (some k_ ≠ (.slice Ao80 t333.length co80 : Value).ownBlock ∧ (some k_ ≠ (.slice Ao86 t339.length co86 : Value).ownBlock ∧ (some k_ ≠ (.slice Ao88 t342.length co88 : Value).ownBlock ∧ (k_ ≠ gb337 ∧ k_ ≠ gb345))))))) ∧ k_ ≠ gb359) ∧ some k_ ≠ (.slice Ao100 t360.length co100 : Value).ownBlock) ∧ some k_ ≠ (.slice Ao101 t363.length co101 : Value).ownBlock) ∧ some k_ ≠ (.slice Ao106 t369.length co106 : Value).ownBlock) ∧ some k_ ≠ (v377 : Value).ownBlock) ∧ k_ ≠ gb379)) (n := t356.length) (c := co108) ?_).2.2; exact (by (with_reducible repeat (first | apply Kd.N_alloc | apply Kd.N_drewN | apply Kd.N_drew)); exact (Kd.N_mono (Kd.N_far (p := ⟨gb379, 1, none⟩) (Kd.N_far (p := ⟨gb379, 0, none⟩) (Kd.N_mono HO358.out (fun k_ hk => (⟨hk, hk.2⟩ : _ ∧ k_ ≠ gb379))) (fun _ hk => hk.2) (.slice Ao104 t366.length co104)) (fun _ hk => hk.2) (.slice Ao106 t369.length co106)) (fun _ h_ => h_.1)))); (case side2 => exact (Kd.N_reads' HO358.out).2.1); (case side3 => refine (Kd.N_reads' (e := 22) (base := w.heap.size) (ok := fun k_ => (((((((((some k_ ≠ (.slice Ao78 t330.length co78 : Value).ownBlock ∧ (some k_ ≠ (.slice Ao80 t333.length co80 : Value).ownBlock ∧ (some k_ ≠ (.slice Ao86 t339.length co86 : Value).ownBlock ∧ (some k_ ≠ (.slice Ao88 t342.length co88 : Value).ownBlock ∧ (k_ ≠ gb300 ∧ (k_ ≠ gb337 ∧ k_ ≠ gb345)))))) ∧ some k_ ≠ (.slice Ao97 t349.length co97 : Value).ownBlock) ∧ some k_ ≠ (.slice Ao108 t356.length co108 : Value).ownBlock) ∧ k_ ≠ gb359) ∧ some k_ ≠ (.slice Ao100 t360.length co100 : Value).ownBlock) ∧ some k_ ≠ (.slice Ao101 t363.length co101 : Value).ownBlock) ∧ some k_ ≠ (.slice Ao106 t369.length co106 : Value).ownBlock) ∧ some k_ ≠ (v377 : Value).ownBlock) ∧ k_ ≠ gb379)) (n := t296.length) (c := co72) ?_).2.2; exact (by (with_reducible repeat (first | apply Kd.N_alloc | apply Kd.N_drewN | apply Kd.N_drew)); exact (Kd.N_mono (Kd.N_far (p := ⟨gb379, 1, none⟩) (Kd.N_far (p := ⟨gb379, 0, none⟩) (Kd.N_mono HO_1.out (fun k_ hk => (⟨hk, hk.2⟩ : _ ∧ k_ ≠ gb379))) (fun _ hk => hk.2) (.slice Ao104 t366.length co104)) (fun _ hk => hk.2) (.slice Ao106 t369.length co106)) (fun _ h_ => h_.1)))); (case side4 => exact (Kd.N_reads' HO_1.out).2.1); rintro e w' ⟨rfl, ⟨nd, rfl⟩⟩; obtain ⟨Ao109, co109, eo109⟩ := Kd.V_slice HO374.out; subst eo109) | (go_at_call 17; (with_reducible refine (customsref33_SameBytes.calls _ _ t372 _ _ l3 true _ ?side1 ?side2 ?side3 ?side4 A68.out).mono ?_); (case side1 => refine (Kd.V_reads' (e := 5) (base := w.heap.size) (ok := fun k_ => ((some k_ ≠ (.slice Ao106 t369.length co106 : Value).ownBlock ∧ (some k_ ≠ (v377 : Value).ownBlock ∧ (some k_ ≠ (.slice Ao72 t296.length co72 : Value).ownBlock ∧ (some k_ ≠ (.slice Ao108 t356.length co108 : Value).ownBlock ∧ (some k_ ≠ (.slice Ao100 t360.length co100 : Value).ownBlock ∧ some k_ ≠ (.slice Ao101 t363.length co101 : Value).ownBlock))))) ∧ k_ ≠ gb379)) (n := t372.length) (c := co109) ?_).2.2; exact (by (with_reducible repeat (first | apply Kd.V_alloc | apply Kd.V_drewN | apply Kd.V_drew)); exact (Kd.V_mono (Kd.V_far (p := ⟨gb379, 1, none⟩) (Kd.V_far (p := ⟨gb379, 0, none⟩) (Kd.V_mono HO374.out (fun k_ hk => (⟨hk, hk.2⟩ : _ ∧ k_ ≠ gb379))) (fun _ hk => hk.2) (.slice Ao104 t366.length co104)) (fun _ hk => hk.2) (.slice Ao106 t369.length co106)) (fun _ h_ => h_.1)))); (case side2 => exact (Kd.V_reads' HO374.out).2.1); (case side3 => exact Kd.C_below HR3.out (by repeat (first | (with_reducible first | exact HB.out | apply below_alloc | apply pw_below_drewN | apply below_drew1 | refine below_set ?_ GE379.out) | exact HB.out))); (case side4 => exact HC3.out); rintro e w' ⟨rfl, ⟨nd, rfl⟩⟩; obtain ⟨Ao110, co110, eo110⟩ := Kd.N_slice HO378.out; subst eo110) | (go_at_call 32; (with_reducible refine (customslaw34_awake.calls k3  t383 _ A71.out).mono ?_); rintro e w111 ⟨rfl, hb⟩; have n0_ := Aside0.mk (Kd.N_below (by (with_reducible repeat (first | apply Kd.N_alloc | apply Kd.N_drewN | apply Kd.N_drew)); exact (Kd.N_mono (Kd.N_far (p := ⟨gb379, 1, none⟩) (Kd.N_far (p := ⟨gb379, 0, none⟩) (Kd.N_mono HO_1.out (fun k_ hk => (⟨hk, hk.2⟩ : _ ∧ k_ ≠ gb379))) (fun _ hk => hk.2) (.slice Ao104 t366.length co104)) (fun _ hk => hk.2) (.slice Ao106 t369.length co106)) (fun _ h_ => h_.1))) hb); have n1_ := Aside0.mk (Kd.V_below (by (with_reducible repeat (first | apply Kd.V_alloc | apply Kd.V_drewN | apply Kd.V_drew)); exact (Kd.V_mono (Kd.V_far (p := ⟨gb379, 1, none⟩) (Kd.V_far (p := ⟨gb379, 0, none⟩) (Kd.V_mono HO354.out (fun k_ hk => (⟨hk, hk.2⟩ : _ ∧ k_ ≠ gb379))) (fun _ hk => hk.2) (.slice Ao104 t366.length co104)) (fun _ hk => hk.2) (.slice Ao106 t369.length co106)) (fun _ h_ => h_.1))) hb); have n2_ := Aside0.mk (Kd.N_below (by (with_reducible repeat (first | apply Kd.N_alloc | apply Kd.N_drewN | apply Kd.N_drew)); exact (Kd.N_mono (Kd.N_far (p := ⟨gb379, 1, none⟩) (Kd.N_far (p := ⟨gb379, 0, none⟩) (Kd.N_mono HO358.out (fun k_ hk => (⟨hk, hk.2⟩ : _ ∧ k_ ≠ gb379))) (fun _ hk => hk.2) (.slice Ao104 t366.length co104)) (fun _ hk => hk.2) (.slice Ao106 t369.length co106)) (fun _ h_ => h_.1))) hb); have n3_ := Aside0.mk (Kd.V_below (by (with_reducible repeat (first | apply Kd.V_alloc | apply Kd.V_drewN | apply Kd.V_drew)); exact (Kd.V_mono (Kd.V_far (p := ⟨gb379, 1, none⟩) (Kd.V_far (p := ⟨gb379, 0, none⟩) (Kd.V_mono HO368.out (fun k_ hk => (⟨hk, hk.2⟩ : _ ∧ k_ ≠ gb379))) (fun _ hk => hk.2) (.slice Ao104 t366.length co104)) (fun _ hk => hk.2) (.slice Ao106 t369.length co106)) (fun _ h_ => h_.1))) hb); have n4_ := Aside0.mk (Kd.R_below (by (with_reducible repeat (first | apply Kd.R_alloc | apply Kd.R_drewN | apply Kd.R_drew)); exact (Kd.R_mono (Kd.R_far (p := ⟨gb379, 1, none⟩) (Kd.R_far (p := ⟨gb379, 0, none⟩) (Kd.R_types HO371.out BK379.out (by decide)) (fun _ hk => hk.2) (.slice Ao104 t366.length co104)) (fun _ hk => hk.2) (.slice Ao106 t369.length co106)) (fun _ h_ => h_.1))) hb); have n5_ := Aside0.mk (Kd.V_below (by (with_reducible repeat (first | apply Kd.V_alloc | apply Kd.V_drewN | apply Kd.V_drew)); exact (Kd.V_mono (Kd.V_far (p := ⟨gb379, 1, none⟩) (Kd.V_far (p := ⟨gb379, 0, none⟩) (Kd.V_mono HO374.out (fun k_ hk => (⟨hk, hk.2⟩ : _ ∧ k_ ≠ gb379))) (fun _ hk => hk.2) (.slice Ao104 t366.length co104)) (fun _ hk => hk.2) (.slice Ao106 t369.length co106)) (fun _ h_ => h_.1))) hb); have n6_ := Aside0.mk (Kd.N_below (by (with_reducible repeat (first | apply Kd.N_alloc | apply Kd.N_drewN | apply Kd.N_drew)); exact (Kd.N_mono (Kd.N_far (p := ⟨gb379, 1, none⟩) (Kd.N_far (p := ⟨gb379, 0, none⟩) (Kd.N_mono HO378.out (fun k_ hk => (⟨hk, hk.2⟩ : _ ∧ k_ ≠ gb379))) (fun _ hk => hk.2) (.slice Ao104 t366.length co104)) (fun _ hk => hk.2) (.slice Ao106 t369.length co106)) (fun _ h_ => h_.1))) hb); have n7_ := Aside0.mk (blk_below (g := gb379) (o := .cells #[.slice Ao104 t366.length co104, .slice Ao106 t369.length co106] 24 (0, 0)) (by (with_reducible repeat (first | refine blk_drewN ?_ _ | refine blk_drew ?_ | refine blk_alloc ?_ _)); refine blk_put (cs := #[.slice Ao104 t366.length co104, .slice none 0 0]) ?_ 1 _ rfl; (with_reducible repeat (first | refine blk_drewN ?_ _ | refine blk_drew ?_ | refine blk_alloc ?_ _)); refine blk_put (cs := #[.slice none 0 0, .slice none 0 0]) ?_ 0 _ rfl; (with_reducible repeat (first | refine blk_drewN ?_ _ | refine blk_drew ?_ | refine blk_alloc ?_ _)); exact BK379.out) hb); have n8_ := Aside0.mk (below_step (by repeat (first | (with_reducible first | exact HB.out | apply below_alloc | apply pw_below_drewN | apply below_drew1 | refine below_set ?_ GE379.out) | exact HB.out)) hb); clear HO_1; clear HO354; clear HO358; clear HO368; clear HO371; clear HO374; clear HO378; clear BK379; clear HB; have HO_1 := n0_; have HO354 := n1_; have HO358 := n2_; have HO368 := n3_; have HO371 := n4_; have HO374 := n5_; have HO378 := n6_; have BK379 := n7_; have HB := n8_; clear n0_ n1_ n2_ n3_ n4_ n5_ n6_ n7_ n8_; (try clear hb); (try clear hb2); (try clear hk); (try clear hi)))
                    go_ret
                    exact ⟨by first | rfl | (rw [HTR.out]; first | done | rfl) | (simp [errW_none, errW_some] <;> rfl) | (simp [*, errW_none, errW_some] <;> rfl), by exact pB HB.out⟩

end Go.Proofs.Ythnlepmfjhhgfaa.PJournalSnapshot
