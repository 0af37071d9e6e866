-- Printed by a patched copy of the kit's printer (wip/prt); nothing here is trusted, Lean checks it.
import Derived.Test.YthnlepmfjhhgfaaPJournalScanx0
import Derived.Test.YthnlepmfjhhgfaaPJournalScanx1
import Derived.Test.YthnlepmfjhhgfaaPJournalScanx2
import Derived.Test.YthnlepmfjhhgfaaPJournalScanx4
namespace Go.Proofs.Ythnlepmfjhhgfaa.PJournalScan
open Go.RowKit Go.Proofs.YthnlepmfjhhgfaaW.PrintWords Go.Proofs.YthnlepmfjhhgfaaW.PrintLast Go.Proofs.YthnlepmfjhhgfaaW.PrintMore
attribute [local go_sem] max2_int min2_int max_two min_two max_three min_three max_four min_four   -- for this text's walks alone
set_option linter.unusedVariables false
set_option linter.unusedSimpArgs false

/-! ### customslaw34_JournalScan: function 8 -/
mutual
def customslaw34_JournalScan.l0 : Nat → List (List Int) → List Bool → List Int → List Int → Int → Option (Bool)
  | 0, _, _, _, _, _ => none
  | k + 1, x0, x1, x2, x7, x8 => if x8 < (x0.length : Int) then (if x8 < (x1.length : Int) then (if 0 ≤ x8 then (customslaw34_JournalScan.j1 k x0 x1 x2 x7 x8 1 (rdOf false x1 x8)) else (none)) else (customslaw34_JournalScan.j1 k x0 x1 x2 x7 x8 1 false)) else (if (x2.length : Int) > 6 then (if 6 ≤ (x2.length : Int) then (customslaw34_JournalScan.j2 k x0 x1 (x2.take 6) x7) else (none)) else (customslaw34_JournalScan.j2 k x0 x1 x2 x7))
def customslaw34_JournalScan.j1 : Nat → List (List Int) → List Bool → List Int → List Int → Int → Int → Bool → Option (Bool)
  | 0, _, _, _, _, _, _, _ => none
  | k + 1, x0, x1, x2, x7, x8, x9, x32 => if x32 = true then (if 0 ≤ x8 then (if x8 < (x0.length : Int) then ((journal_Encode.f k 2 (rd_L1 x0 x8)).bind fun bt289 => (if bt289.2 = 0 then (if x7.length + bt289.1.length < 140737488355328 then (customslaw34_JournalScan.l0 k x0 x1 x2 (x7 ++ bt289.1) (wrap64 (x8 + 1))) else (none)) else (some false))) else (none)) else (none)) else (if 0 ≤ x8 then (if x8 < (x0.length : Int) then ((journal_Encode.f k x9 (rd_L1 x0 x8)).bind fun bt297 => (if bt297.2 = 0 then (if x7.length + bt297.1.length < 140737488355328 then (customslaw34_JournalScan.l0 k x0 x1 x2 (x7 ++ bt297.1) (wrap64 (x8 + 1))) else (none)) else (some false))) else (none)) else (none))
def customslaw34_JournalScan.j2 : Nat → List (List Int) → List Bool → List Int → List Int → Option (Bool)
  | 0, _, _, _, _ => none
  | k + 1, x0, x1, x2, x7 => (some (([] : List Int) : List Int)).bind fun y309 => (if y309.length + x7.length < 140737488355328 then ((some (y309 ++ x7 : List Int)).bind fun y312 => (if y312.length + x2.length < 140737488355328 then ((journal_Scan.f k (y312 ++ x2)).bind fun bt318 => (if bt318.2 = (x7.length : Int) then (customslaw34_JournalScan.j3 k x0 x1 bt318.1 ((bt318.1.length : Int) != (x0.length : Int))) else (customslaw34_JournalScan.j3 k x0 x1 bt318.1 true))) else (none))) else (none))
def customslaw34_JournalScan.j3 : Nat → List (List Int) → List Bool → List (S43) → Bool → Option (Bool)
  | 0, _, _, _, _ => none
  | k + 1, x0, x1, x12, x72 => if x72 = true then (some false) else (customslaw34_JournalScan.l1 k x0 x1 x12 0)
def customslaw34_JournalScan.l1 : Nat → List (List Int) → List Bool → List (S43) → Int → Option (Bool)
  | 0, _, _, _, _ => none
  | k + 1, x0, x1, x12, x14 => if x14 < (x0.length : Int) then (if 0 ≤ x14 then (if x14 < (x12.length : Int) then ((customsref33_SameBytes.f ((rd_T43 x12 x14).f1) (rd_L1 x0 x14)).bind fun t324 => (if t324 = true then (if x14 < (x1.length : Int) then (if ((((rd_T43 x12 x14).f0) == 2) != (rdOf false x1 x14)) = true then (some false) else (customslaw34_JournalScan.l1 k x0 x1 x12 (wrap64 (x14 + 1)))) else (if ((((rd_T43 x12 x14).f0) == 2) != false) = true then (some false) else (customslaw34_JournalScan.l1 k x0 x1 x12 (wrap64 (x14 + 1))))) else (some false))) else (none)) else (none)) else ((customslaw34_awake.f k).bind fun t327 => (some t327))
end
def customslaw34_JournalScan.f (k : Nat) (l0 : List (List Int)) (l1 : List Bool) (l2 : List Int) : Option (Bool) := (customslaw34_cut.f k l0).bind fun t284 => (customslaw34_JournalScan.l0 k t284 l1 l2 ([] : List Int) 0)
theorem customslaw34_JournalScan.mono_l : ∀ k, (∀ y0 y1 y2 y3 y4, LeO (customslaw34_JournalScan.l0 k y0 y1 y2 y3 y4) (customslaw34_JournalScan.l0 (k + 1) y0 y1 y2 y3 y4)) ∧ (∀ y0 y1 y2 y3 y4 y5 y6, LeO (customslaw34_JournalScan.j1 k y0 y1 y2 y3 y4 y5 y6) (customslaw34_JournalScan.j1 (k + 1) y0 y1 y2 y3 y4 y5 y6)) ∧ (∀ y0 y1 y2 y3, LeO (customslaw34_JournalScan.j2 k y0 y1 y2 y3) (customslaw34_JournalScan.j2 (k + 1) y0 y1 y2 y3)) ∧ (∀ y0 y1 y2 y3, LeO (customslaw34_JournalScan.j3 k y0 y1 y2 y3) (customslaw34_JournalScan.j3 (k + 1) y0 y1 y2 y3)) ∧ (∀ y0 y1 y2 y3, LeO (customslaw34_JournalScan.l1 k y0 y1 y2 y3) (customslaw34_JournalScan.l1 (k + 1) y0 y1 y2 y3))
  | 0 => ⟨fun _ _ _ _ _ r h => by simp [customslaw34_JournalScan.l0] at h, fun _ _ _ _ _ _ _ r h => by simp [customslaw34_JournalScan.j1] at h, fun _ _ _ _ r h => by simp [customslaw34_JournalScan.j2] at h, fun _ _ _ _ r h => by simp [customslaw34_JournalScan.j3] at h, fun _ _ _ _ r h => by simp [customslaw34_JournalScan.l1] at h⟩
  | k + 1 => by
    obtain ⟨ih0, ih1, ih2, ih3, ih4⟩ := customslaw34_JournalScan.mono_l k
    refine ⟨?_, ?_, ?_, ?_, ?_⟩
    · intro y0 y1 y2 y3 y4
      unfold customslaw34_JournalScan.l0
      repeat' first
      | (with_reducible exact ih0 _ _ _ _ _)
      | (with_reducible exact ih1 _ _ _ _ _ _ _)
      | (with_reducible exact ih2 _ _ _ _)
      | (with_reducible exact ih3 _ _ _ _)
      | (with_reducible exact ih4 _ _ _ _)
      | (with_reducible exact customslaw34_awake.mono _)
      | (with_reducible exact customslaw34_cut.mono _ _)
      | (with_reducible exact journal_Encode.mono _ _ _)
      | (with_reducible exact journal_Scan.mono _ _)
      | (with_reducible exact LeO.refl _)
      | (with_reducible exact LeO.none _)
      | (with_reducible refine LeO.ite ?_ ?_)
      | (with_reducible refine LeO.bind ?_ (fun _ => ?_))
      | exact ih0 _ _ _ _ _
      | exact ih1 _ _ _ _ _ _ _
      | exact ih2 _ _ _ _
      | exact ih3 _ _ _ _
      | exact ih4 _ _ _ _
      | exact customslaw34_awake.mono _
      | exact customslaw34_cut.mono _ _
      | exact journal_Encode.mono _ _ _
      | exact journal_Scan.mono _ _
      | exact LeO.none _
      | refine LeO.ite ?_ ?_
      | refine LeO.bind ?_ (fun _ => ?_)
    · intro y0 y1 y2 y3 y4 y5 y6
      unfold customslaw34_JournalScan.j1
      repeat' first
      | (with_reducible exact ih0 _ _ _ _ _)
      | (with_reducible exact ih1 _ _ _ _ _ _ _)
      | (with_reducible exact ih2 _ _ _ _)
      | (with_reducible exact ih3 _ _ _ _)
      | (with_reducible exact ih4 _ _ _ _)
      | (with_reducible exact customslaw34_awake.mono _)
      | (with_reducible exact customslaw34_cut.mono _ _)
      | (with_reducible exact journal_Encode.mono _ _ _)
      | (with_reducible exact journal_Scan.mono _ _)
      | (with_reducible exact LeO.refl _)
      | (with_reducible exact LeO.none _)
      | (with_reducible refine LeO.ite ?_ ?_)
      | (with_reducible refine LeO.bind ?_ (fun _ => ?_))
      | exact ih0 _ _ _ _ _
      | exact ih1 _ _ _ _ _ _ _
      | exact ih2 _ _ _ _
      | exact ih3 _ _ _ _
      | exact ih4 _ _ _ _
      | exact customslaw34_awake.mono _
      | exact customslaw34_cut.mono _ _
      | exact journal_Encode.mono _ _ _
      | exact journal_Scan.mono _ _
      | exact LeO.none _
      | refine LeO.ite ?_ ?_
      | refine LeO.bind ?_ (fun _ => ?_)
    · intro y0 y1 y2 y3
      unfold customslaw34_JournalScan.j2
      repeat' first
      | (with_reducible exact ih0 _ _ _ _ _)
      | (with_reducible exact ih1 _ _ _ _ _ _ _)
      | (with_reducible exact ih2 _ _ _ _)
      | (with_reducible exact ih3 _ _ _ _)
      | (with_reducible exact ih4 _ _ _ _)
      | (with_reducible exact customslaw34_awake.mono _)
      | (with_reducible exact customslaw34_cut.mono _ _)
      | (with_reducible exact journal_Encode.mono _ _ _)
      | (with_reducible exact journal_Scan.mono _ _)
      | (with_reducible exact LeO.refl _)
      | (with_reducible exact LeO.none _)
      | (with_reducible refine LeO.ite ?_ ?_)
      | (with_reducible refine LeO.bind ?_ (fun _ => ?_))
      | exact ih0 _ _ _ _ _
      | exact ih1 _ _ _ _ _ _ _
      | exact ih2 _ _ _ _
      | exact ih3 _ _ _ _
      | exact ih4 _ _ _ _
      | exact customslaw34_awake.mono _
      | exact customslaw34_cut.mono _ _
      | exact journal_Encode.mono _ _ _
      | exact journal_Scan.mono _ _
      | exact LeO.none _
      | refine LeO.ite ?_ ?_
      | refine LeO.bind ?_ (fun _ => ?_)
    · intro y0 y1 y2 y3
      unfold customslaw34_JournalScan.j3
      repeat' first
      | (with_reducible exact ih0 _ _ _ _ _)
      | (with_reducible exact ih1 _ _ _ _ _ _ _)
      | (with_reducible exact ih2 _ _ _ _)
      | (with_reducible exact ih3 _ _ _ _)
      | (with_reducible exact ih4 _ _ _ _)
      | (with_reducible exact customslaw34_awake.mono _)
      | (with_reducible exact customslaw34_cut.mono _ _)
      | (with_reducible exact journal_Encode.mono _ _ _)
      | (with_reducible exact journal_Scan.mono _ _)
      | (with_reducible exact LeO.refl _)
      | (with_reducible exact LeO.none _)
      | (with_reducible refine LeO.ite ?_ ?_)
      | (with_reducible refine LeO.bind ?_ (fun _ => ?_))
      | exact ih0 _ _ _ _ _
      | exact ih1 _ _ _ _ _ _ _
      | exact ih2 _ _ _ _
      | exact ih3 _ _ _ _
      | exact ih4 _ _ _ _
      | exact customslaw34_awake.mono _
      | exact customslaw34_cut.mono _ _
      | exact journal_Encode.mono _ _ _
      | exact journal_Scan.mono _ _
      | exact LeO.none _
      | refine LeO.ite ?_ ?_
      | refine LeO.bind ?_ (fun _ => ?_)
    · intro y0 y1 y2 y3
      unfold customslaw34_JournalScan.l1
      repeat' first
      | (with_reducible exact ih0 _ _ _ _ _)
      | (with_reducible exact ih1 _ _ _ _ _ _ _)
      | (with_reducible exact ih2 _ _ _ _)
      | (with_reducible exact ih3 _ _ _ _)
      | (with_reducible exact ih4 _ _ _ _)
      | (with_reducible exact customslaw34_awake.mono _)
      | (with_reducible exact customslaw34_cut.mono _ _)
      | (with_reducible exact journal_Encode.mono _ _ _)
      | (with_reducible exact journal_Scan.mono _ _)
      | (with_reducible exact LeO.refl _)
      | (with_reducible exact LeO.none _)
      | (with_reducible refine LeO.ite ?_ ?_)
      | (with_reducible refine LeO.bind ?_ (fun _ => ?_))
      | exact ih0 _ _ _ _ _
      | exact ih1 _ _ _ _ _ _ _
      | exact ih2 _ _ _ _
      | exact ih3 _ _ _ _
      | exact ih4 _ _ _ _
      | exact customslaw34_awake.mono _
      | exact customslaw34_cut.mono _ _
      | exact journal_Encode.mono _ _ _
      | exact journal_Scan.mono _ _
      | exact LeO.none _
      | refine LeO.ite ?_ ?_
      | refine LeO.bind ?_ (fun _ => ?_)
theorem customslaw34_JournalScan.mono : ∀ a0 a1 a2 k, LeO (customslaw34_JournalScan.f k a0 a1 a2) (customslaw34_JournalScan.f (k + 1) a0 a1 a2) := by
  intro a0 a1 a2 k
  obtain ⟨ih0, ih1, ih2, ih3, ih4⟩ := customslaw34_JournalScan.mono_l k
  unfold customslaw34_JournalScan.f
  repeat' first
      | (with_reducible exact ih0 _ _ _ _ _)
      | (with_reducible exact ih1 _ _ _ _ _ _ _)
      | (with_reducible exact ih2 _ _ _ _)
      | (with_reducible exact ih3 _ _ _ _)
      | (with_reducible exact ih4 _ _ _ _)
      | (with_reducible exact customslaw34_awake.mono _)
      | (with_reducible exact customslaw34_cut.mono _ _)
      | (with_reducible exact journal_Encode.mono _ _ _)
      | (with_reducible exact journal_Scan.mono _ _)
      | (with_reducible exact LeO.refl _)
      | (with_reducible exact LeO.none _)
      | (with_reducible refine LeO.ite ?_ ?_)
      | (with_reducible refine LeO.bind ?_ (fun _ => ?_))
      | exact ih0 _ _ _ _ _
      | exact ih1 _ _ _ _ _ _ _
      | exact ih2 _ _ _ _
      | exact ih3 _ _ _ _
      | exact ih4 _ _ _ _
      | exact customslaw34_awake.mono _
      | exact customslaw34_cut.mono _ _
      | exact journal_Encode.mono _ _ _
      | exact journal_Scan.mono _ _
      | exact LeO.none _
      | refine LeO.ite ?_ ?_
      | refine LeO.bind ?_ (fun _ => ?_)
def customslaw34_JournalScan.T21 : Bool × List (List Nat × List Nat) := (true, [([], []), ([], []), ([0, 1], [0, 1]), ([2], [2]), ([3], [3]), ([], []), ([], []), ([5, 6], [5, 6]), ([7], [7]), ([4, 8], [4, 8]), ([9], [9]), ([10, 9], [10]), ([11], [11]), ([11], [11]), ([12, 13, 11], [11, 12, 13]), ([14, 11], [11, 14]), ([15, 11], [11, 15]), ([16, 11], [11, 16]), ([11], [11]), ([11], [11]), ([19, 11], [11, 19]), ([18, 20, 11], [11, 18, 20]), ([21, 11, 11], [11, 21]), ([22], [22]), ([22], [22]), ([23, 24, 22], [22, 23, 24]), ([25, 22], [22, 25]), ([22, 26, 11], [11, 22, 26]), ([17, 27, 11], [11, 17, 27]), ([11, 28], [11, 28])])
def customslaw34_JournalScan.B21 : List Nat := [0, 0, 3, 7, 15, 0, 0, 96, 224, 511, 1023, 2047, 4095, 4095, 16383, 32767, 65535, 131071, 4095, 4095, 528383, 1839103, 3936255, 8130559, 8130559, 33296383, 66850815, 133959679, 268435455, 536870911]
theorem customslaw34_JournalScan.tab21 : rtab .any (opsOf Try.f8 21) = customslaw34_JournalScan.T21 := by kernel_rfl
theorem customslaw34_JournalScan.bits21 : waitsOk customslaw34_JournalScan.T21.2 customslaw34_JournalScan.B21 = true := by kernel_rfl
set_option maxHeartbeats 8000000 in
set_option maxRecDepth 100000 in
theorem customslaw34_JournalScan.calls (k : Nat) (P0_ : Nat → Prop) (A0 : Option Addr) (c0 : Nat) (l0 : List (List Int)) (A1 : Option Addr) (c1 : Nat) (l1 : List Bool) (P2_ : Nat → Prop) (A2 : Option Addr) (c2 : Nat) (l2 : List Int) (w : World) (hs0 : Kd.V (Kd.slice 5 (Kd.int .u8)) 22 w w.heap.size (fun k_ => P0_ k_) (.slice A0 l0.length c0) l0) (hr1 : Kd.C Kd.bool w A1 l1.length l1) (hc1 : l1.length ≤ c1) (hs2 : Kd.V (Kd.int .u8) 5 w w.heap.size (fun k_ => P2_ k_) (.slice A2 l2.length c2) l2) (h : customslaw34_JournalScan.f k l0 l1 l2 = some true) :
    Calls Try.prog 8 #[.slice A0 l0.length c0, .slice A1 l1.length c1, .slice A2 l2.length c2] w fun e w' => e = .returned (.bool true) ∧ Below w.heap.size w w' := by
  have hu43 := Try.underlying43
  have HO0 := Aside0.mk (show Kd.V (Kd.slice 5 (Kd.int .u8)) 22 w w.heap.size (fun k_ => ((P0_ k_ ∨ P2_ k_) ∨ w.heap.size ≤ k_)) (.slice A0 l0.length c0) l0 from Kd.V_mono hs0 (fun k_ hk => .inl (.inl hk)))
  have HR1 := Aside0.mk hr1
  have HC1 := Aside0.mk hc1
  clear hr1 hc1
  have HO2 := Aside0.mk (show Kd.V (Kd.int .u8) 5 w w.heap.size (fun k_ => ((P0_ k_ ∨ P2_ k_) ∨ w.heap.size ≤ k_)) (.slice A2 l2.length c2) l2 from Kd.V_mono hs2 (fun k_ hk => .inl (.inr hk)))
  have HB := Aside0.mk (Below.refl w.heap.size w)
  have H : ((customslaw34_cut.f k l0).bind fun t284 => (customslaw34_JournalScan.l0 k t284 l1 l2 ([] : List Int) 0)) = some true := h
  clear h
  replace H := Option.bind_eq_some_iff.mp H
  obtain ⟨t284, A40, H⟩ := H
  replace H : (customslaw34_JournalScan.l0 k t284 l1 l2 ([] : List Int) 0) = some true := H
  have A4 := Aside0.mk A40
  clear A40
  have H' := Aside0.mk H
  clear H
  go_enter Try.func8, Try.ntmps8
  go_wp2_with (first | ((with_reducible refine gate_callee (f := 33) rfl ?_); refine goesL_ (some 16) rfl rfl Try.func33 (by kernel_rfl) rfl #[.slice A0 l0.length c0] rfl (by (try simp only [List.map_toArray, List.map_cons, List.map_nil]); first | done | rfl | (simp only [List.length_drop, List.length_take]; rfl)) ?_; (with_reducible refine (customslaw34_cut.calls k (fun k_ => ((P0_ k_ ∨ P2_ k_) ∨ w.heap.size ≤ k_)) _ _ l0 t284 _ ?side1 A4.out).mono ?_); (case side1 => exact HO0.out); rintro e w5 ⟨v285, rfl, ho0, hb⟩; refine ⟨_, rfl, ?_⟩; have n0_ := Aside0.mk (Kd.V_elder' (by (with_reducible repeat (first | apply Kd.V_alloc | apply Kd.V_drewN | apply Kd.V_drew)); exact HO0.out) (by first | exact Kd.N_base ho0 | exact Kd.S_base ho0 | exact Kd.R_base ho0 | exact Kd.Q_base ho0) hb); have n1_ := Aside0.mk (Kd.V_elder' (by (with_reducible repeat (first | apply Kd.V_alloc | apply Kd.V_drewN | apply Kd.V_drew)); exact HO2.out) (by first | exact Kd.N_base ho0 | exact Kd.S_base ho0 | exact Kd.R_base ho0 | exact Kd.Q_base ho0) hb); have n2_ := Aside0.mk (Kd.N_lower (Kd.N_mono (ok' := fun k_ => ((P0_ k_ ∨ P2_ k_) ∨ w.heap.size ≤ k_)) ho0 (fun k_ hk_ => Or.elim hk_ (fun hs_ => hs_) (fun hn_ => (.inr (Nat.le_trans (below_size (by repeat (first | (with_reducible first | exact HB.out | apply below_alloc | apply pw_below_drewN | apply below_drew1) | exact HB.out))) hn_))))) (below_size (by repeat (first | (with_reducible first | exact HB.out | apply below_alloc | apply pw_below_drewN | apply below_drew1) | exact HB.out)))); have n3_ := Aside0.mk (below_step (by repeat (first | (with_reducible first | exact HB.out | apply below_alloc | apply pw_below_drewN | apply below_drew1) | exact HB.out)) hb); clear HO0; clear HO2; clear HB; have HO0 := n0_; have HO2 := n1_; have HO286 := n2_; have HB := n3_; clear n0_ n1_ n2_ n3_; (try clear hb); (try clear hb2); (try clear hk); (try clear hi); (try clear ho0)))
  go_loopg [7, 8] k (fun kq v7 v8 w' => ∃ (x7_1 : List Int) (x8_1 : Int), v8 = .int .i64 x8_1 ∧ Aside0 (customslaw34_JournalScan.l0 kq t284 l1 l2 x7_1 x8_1 = some true) ∧ Aside0 (kq ≤ k) ∧ Aside0 (Kd.N (Kd.slice 5 (Kd.int .u8)) 22 w' w.heap.size (fun k_ => ((P0_ k_ ∨ P2_ k_) ∨ w.heap.size ≤ k_) ∧ some k_ ≠ (v7 : Value).ownBlock) v285 t284) ∧ Aside0 (Kd.V (Kd.int .u8) 5 w' w.heap.size (fun k_ => ((P0_ k_ ∨ P2_ k_) ∨ w.heap.size ≤ k_) ∧ some k_ ≠ (v285 : Value).ownBlock ∧ some k_ ≠ (v7 : Value).ownBlock) (.slice A2 l2.length c2) l2) ∧ Aside0 (Kd.R (Kd.int .u8) 5 w' w.heap.size (fun k_ => (w.heap.size ≤ k_)) v7 x7_1) ∧ Aside0 (Below w.heap.size w w'))
  case atStart => exact ⟨(([] : List Int)), (0), (by first | rfl | (simp; done) | (simp [*]; done)), H', ⟨Nat.le_refl _⟩, ⟨by (with_reducible repeat (first | apply Kd.N_alloc | apply Kd.N_drewN | apply Kd.N_drew)); exact Kd.N_mono HO286.out (fun _ hk => ⟨hk, (by simp [Value.ownBlock])⟩)⟩, ⟨by (with_reducible repeat (first | apply Kd.V_alloc | apply Kd.V_drewN | apply Kd.V_drew)); exact Kd.V_mono HO2.out (fun _ hk => ⟨hk.1, ⟨hk.2, (by simp [Value.ownBlock])⟩⟩)⟩, ⟨by first | exact Kd.R_nil _ _ _ _ _ | exact Kd.N_nil _ _ _ _ _ | exact Kd.V_nil _ _ _ _ _ | exact Kd.Q_nil _ _ _ _ _ | exact Kd.S_nil _ _ _ _ _⟩, ⟨by repeat (first | (with_reducible first | exact HB.out | apply below_alloc | apply pw_below_drewN | apply below_drew1) | exact HB.out)⟩⟩
  case round =>
    clear H'
    try clear c1
    try clear c2
    try clear p2
    try clear c3
    obtain ⟨x7_1, x8_1, rfl, HA, HK1, HO_0, HO_2, HO_7, HB⟩ := hrel
    cases gk with
    | zero => exact absurd HA.out (by simp [customslaw34_JournalScan.l0])
    | succ k1 =>
      have H := HA.out
      clear HA
      simp only [customslaw34_JournalScan.l0] at H
      by_cases c6 : x8_1 < (t284.length : Int)
      · rw [if_pos c6] at H
        have c6b0 : decide (x8_1 < (t284.length : Int)) = true := decide_eq_true c6
        clear c6
        have HC7 := Aside0.mk H
        clear H
        obtain ⟨Ao8, co8, eo8⟩ := Kd.N_slice HO_0.out
        subst eo8
        go_upto_region 7 with (fail)
        go_cut [32] (fun v32 wc => ∃ (kq : Nat) (x32_6 : Bool), v32 = .bool x32_6 ∧ Aside0 (customslaw34_JournalScan.j1 kq t284 l1 l2 x7_1 x8_1 1 x32_6 = some true) ∧ Aside0 (kq ≤ k1) ∧ Aside0 (Kd.N (Kd.slice 5 (Kd.int .u8)) 22 wc w.heap.size (fun k_ => ((P0_ k_ ∨ P2_ k_) ∨ w.heap.size ≤ k_) ∧ some k_ ≠ (u7 : Value).ownBlock) (.slice Ao8 t284.length co8) t284) ∧ Aside0 (Kd.V (Kd.int .u8) 5 wc w.heap.size (fun k_ => ((P0_ k_ ∨ P2_ k_) ∨ w.heap.size ≤ k_) ∧ some k_ ≠ ((.slice Ao8 t284.length co8) : Value).ownBlock ∧ some k_ ≠ (u7 : Value).ownBlock) (.slice A2 l2.length c2) l2) ∧ Aside0 (Kd.R (Kd.int .u8) 5 wc w.heap.size (fun k_ => (w.heap.size ≤ k_)) u7 x7_1) ∧ Aside0 (Below w.heap.size w wc))
        case first =>
          have H := HC7.out
          clear HC7
          by_cases c9 : x8_1 < (l1.length : Int)
          · rw [if_pos c9] at H
            have c9b0 : decide (x8_1 < (l1.length : Int)) = true := decide_eq_true c9
            clear c9
            (first | rw [c9b0] | (simp only [i64_w, i32_w]; rw [c9b0]) | skip)
            by_cases c10 : 0 ≤ x8_1
            · rw [if_pos c10] at H
              have c10b0 : decide (0 ≤ x8_1) = true := decide_eq_true c10
              clear c10
              have H' := Aside0.mk H
              clear H
              have p287 : 0 ≤ (x8_1 : Int) := of_decide_eq_true (by first | (with_reducible assumption) | assumption)
              have q287 : x8_1 < (l1.length : Int) := of_decide_eq_true (by first | (with_reducible assumption) | assumption)
              obtain ⟨ad287, e287, hx287_0⟩ := Kd.at_bool HR1.out x8_1 p287 q287
              cases e287
              replace hx287_0 := (HB.out.cell (World.block_lt_of_cell? w _ hx287_0)).trans hx287_0
              replace p287 := eq_true p287
              replace q287 := eq_true q287
              go_wp2
              go_meet
              case rel => exact ⟨_, (rdOf false l1 x8_1), (by first | rfl | (simp; done) | (simp [*]; done)), H', ⟨by have := HK1.out; first | omega | exact Nat.le_refl _⟩, ⟨by (with_reducible repeat (first | apply Kd.N_alloc | apply Kd.N_drewN | apply Kd.N_drew)); exact HO_0.out⟩, ⟨by (with_reducible repeat (first | apply Kd.V_alloc | apply Kd.V_drewN | apply Kd.V_drew)); exact HO_2.out⟩, ⟨by (with_reducible repeat (first | apply Kd.R_alloc | apply Kd.R_drewN | apply Kd.R_drew)); exact HO_7.out⟩, ⟨by repeat (first | (with_reducible first | exact HB.out | apply below_alloc | apply pw_below_drewN | apply below_drew1) | exact HB.out)⟩⟩
            · rw [if_neg c10] at H
              exact absurd H (by simp)
          · rw [if_neg c9] at H
            have c9b0 : decide (x8_1 < (l1.length : Int)) = false := decide_eq_false c9
            clear c9
            (first | rw [c9b0] | (simp only [i64_w, i32_w]; rw [c9b0]) | skip)
            have H' := Aside0.mk H
            clear H
            go_wp2
            go_meet
            case rel => exact ⟨_, (false), (by first | rfl | (simp; done) | (simp [*]; done)), H', ⟨by have := HK1.out; first | omega | exact Nat.le_refl _⟩, ⟨by (with_reducible repeat (first | apply Kd.N_alloc | apply Kd.N_drewN | apply Kd.N_drew)); exact HO_0.out⟩, ⟨by (with_reducible repeat (first | apply Kd.V_alloc | apply Kd.V_drewN | apply Kd.V_drew)); exact HO_2.out⟩, ⟨by (with_reducible repeat (first | apply Kd.R_alloc | apply Kd.R_drewN | apply Kd.R_drew)); exact HO_7.out⟩, ⟨by repeat (first | (with_reducible first | exact HB.out | apply below_alloc | apply pw_below_drewN | apply below_drew1) | exact HB.out)⟩⟩
        case rest =>
          clear HC7
          try clear c1
          try clear c2
          try clear p2
          try clear q2
          try clear hx2
          try clear c3
          try clear c6
          try clear c6b0
          try clear c8
          try clear c9
          try clear c9b0
          try clear c10
          try clear c10b0
          try clear hx287_0
          try clear p2
          try clear p287
          try clear q287
          obtain ⟨kq, x32_6, rfl, HA, HJ6, HO_0, HO_2, HO_7, HB⟩ := hcut
          cases kq with
          | zero => exact absurd HA.out (by simp [customslaw34_JournalScan.j1])
          | succ kj6 =>
            have H := HA.out
            clear HA
            simp only [customslaw34_JournalScan.j1] at H
            by_cases c11 : x32_6 = true
            · subst c11
              have H1 : (if 0 ≤ x8_1 then (if x8_1 < (t284.length : Int) then ((journal_Encode.f kj6 2 (rd_L1 t284 x8_1)).bind fun bt289 => (if bt289.2 = 0 then (if x7_1.length + bt289.1.length < 140737488355328 then (customslaw34_JournalScan.l0 kj6 t284 l1 l2 (x7_1 ++ bt289.1) (wrap64 (x8_1 + 1))) else (none)) else (some false))) else (none)) else (none)) = some true := by rw [if_pos rfl] at H; exact H
              clear H
              have H := H1
              clear H1
              by_cases c12 : 0 ≤ x8_1
              · rw [if_pos c12] at H
                have c12b0 : decide (0 ≤ x8_1) = true := decide_eq_true c12
                clear c12
                by_cases c13 : x8_1 < (t284.length : Int)
                · rw [if_pos c13] at H
                  have c13b0 : decide (x8_1 < (t284.length : Int)) = true := decide_eq_true c13
                  clear c13
                  replace H := Option.bind_eq_some_iff.mp H
                  obtain ⟨⟨t289, t292⟩, A140, H⟩ := H
                  replace H : (if t292 = 0 then (if x7_1.length + t289.length < 140737488355328 then (customslaw34_JournalScan.l0 kj6 t284 l1 l2 (x7_1 ++ t289) (wrap64 (x8_1 + 1))) else (none)) else (some false)) = some true := H
                  have A14 := Aside0.mk A140
                  clear A140
                  by_cases c15 : t292 = 0
                  · rw [if_pos c15] at H
                    have c15b0 : (t292 == 0) = true := beq_iff_eq.mpr c15
                    have c15b1 : (t292 != 0) = false := bne_eq_false_iff_eq.mpr c15
                    clear c15
                    by_cases c16 : x7_1.length + t289.length < 140737488355328
                    · rw [if_pos c16] at H
                      have LMc16 := Aside0.mk c16
                      clear c16
                      obtain ⟨y293, hy293⟩ : ∃ y_ : List Int, y_ = (x7_1 ++ t289) := ⟨_, rfl⟩
                      replace H : (customslaw34_JournalScan.l0 kj6 t284 l1 l2 y293 (wrap64 (x8_1 + 1))) = some true := by first | (rw [hy293]; with_reducible exact H) | (have H2_ := (Option.bind_some _ _).symm.trans H; rw [hy293]; with_reducible exact H2_) | (have H2_ := (Option.bind_some _ _).symm.trans H; with_reducible exact H2_) | with_reducible exact H | (rw [hy293]; exact H) | exact H
                      have Ny293 := Aside0.mk hy293
                      clear hy293
                      have H' := Aside0.mk H
                      clear H
                      have p288 : 0 ≤ (x8_1 : Int) := of_decide_eq_true (by first | (with_reducible assumption) | assumption)
                      have q288 : x8_1 < (t284.length : Int) := of_decide_eq_true (by first | (with_reducible assumption) | assumption)
                      obtain ⟨ad288, A288_0, c288_0, e288, hx288_0, hl288_0, hi288_0⟩ := at_L1 (Kd.N_reads' HO_0.out).2.2 x8_1 p288 q288
                      cases e288
                      obtain ⟨ce288, hce288, hMe288, hcc288⟩ := Kd.N_get HO_0.out [] x8_1 p288 (by first | exact q288 | exact of_decide_eq_true (by first | (with_reducible assumption) | assumption) | (have e_ := (Kd.N_reads' HO_0.out).1; omega))
                      obtain ⟨ua288_0, uc288_0, rfl, ul288_0, ge288_0⟩ := Kd.FK_slice_open hMe288
                      have hv288_0 := hcc288 0 _ rfl
                      rw [Nat.add_zero, show ((Kd.slice 5 (Kd.int .u8))).sz = 1 from rfl, Nat.mul_one] at hv288_0
                      replace hv288_0 := Option.some.inj (hv288_0.symm.trans hx288_0)
                      injection hv288_0 with hva_ hvn_ hvc_
                      rw [hva_] at ge288_0
                      rw [hvc_] at ul288_0
                      have HL288_0 := Aside0.mk (show Kd.V (Kd.int .u8) 5 _ w.heap.size _ _ (rd_L1 t284 x8_1) from Kd.V_mk ul288_0 ge288_0)
                      clear hva_ hvn_ hvc_ ge288_0 ul288_0
                      clear hcc288 hce288
                      have HR288_0 := Aside0.mk hi288_0
                      have HC288_0 := Aside0.mk hl288_0
                      clear hi288_0 hl288_0
                      replace p288 := eq_true p288
                      replace q288 := eq_true q288
                      go_wp2_with (first | ((with_reducible refine gate_callee (f := 28) rfl ?_); refine goesL_ (some 40) rfl rfl Try.func28 (by kernel_rfl) rfl #[.agg #[.int .i64 2, .slice A288_0 (rd_L1 t284 x8_1).length c288_0]] rfl (by (try simp only [List.map_toArray, List.map_cons, List.map_nil]); first | done | rfl | (simp only [List.length_drop, List.length_take]; rfl)) ?_; (with_reducible refine (journal_Encode.calls kj6 2 _ _ (rd_L1 t284 x8_1) t289 t292 _ ?side1 ?side2 A14.out).mono ?_); (case side1 => repeat (first | exact (by repeat (first | (with_reducible exact HR288_0.out) | (with_reducible refine Kd.C_alloc ?_ _) | (with_reducible refine Kd.C_drewN ?_ _) | (with_reducible refine Kd.C_drew ?_) | exact HR288_0.out)) | (with_reducible refine Kd.C_alloc ?_ _) | (with_reducible refine Kd.C_drewN ?_ _) | (with_reducible refine Kd.C_drew ?_))); (case side2 => exact HC288_0.out); rintro e w17 ⟨v290, rfl, ho0, hb⟩; refine ⟨_, rfl, ?_⟩; have n0_ := Aside0.mk (Kd.N_elder' (by (with_reducible repeat (first | apply Kd.N_alloc | apply Kd.N_drewN | apply Kd.N_drew)); exact HO_0.out) (Kd.R_base ho0) hb); have n1_ := Aside0.mk (Kd.V_elder' (by (with_reducible repeat (first | apply Kd.V_alloc | apply Kd.V_drewN | apply Kd.V_drew)); exact HO_2.out) (Kd.R_base ho0) hb); have n2_ := Aside0.mk (Kd.R_elder' (by (with_reducible repeat (first | apply Kd.R_alloc | apply Kd.R_drewN | apply Kd.R_drew)); exact HO_7.out) (Kd.R_base ho0) hb); have n3_ := Aside0.mk (Kd.V_elder' (by (with_reducible repeat (first | apply Kd.V_alloc | apply Kd.V_drewN | apply Kd.V_drew)); exact HL288_0.out) (Kd.R_base ho0) hb); have n4_ := Aside0.mk (Kd.R_lower (Kd.R_new' (Kd.R_newM (M := fun k_ => (w.heap.size ≤ k_)) ho0 (below_size (by repeat (first | (with_reducible first | exact HB.out | apply below_alloc | apply pw_below_drewN | apply below_drew1) | exact HB.out))) (fun k_ h_ => h_)) (Kd.R_lt (by (with_reducible repeat (first | apply Kd.R_alloc | apply Kd.R_drewN | apply Kd.R_drew)); exact HO_7.out))) (below_size (by repeat (first | (with_reducible first | exact HB.out | apply below_alloc | apply pw_below_drewN | apply below_drew1) | exact HB.out)))); have n5_ := Aside0.mk (Kd.C_below (by repeat (first | (with_reducible exact HR288_0.out) | (with_reducible refine Kd.C_alloc ?_ _) | (with_reducible refine Kd.C_drewN ?_ _) | (with_reducible refine Kd.C_drew ?_) | exact HR288_0.out)) hb); have n6_ := Aside0.mk (below_step (by repeat (first | (with_reducible first | exact HB.out | apply below_alloc | apply pw_below_drewN | apply below_drew1) | exact HB.out)) hb); clear HO_0; clear HO_2; clear HO_7; clear HL288_0; clear HR288_0; clear HB; have HO_0 := n0_; have HO_2 := n1_; have HO_7 := n2_; have HL288_0 := n3_; have HO291 := n4_; have HR288_0 := n5_; have HB := n6_; clear n0_ n1_ n2_ n3_ n4_ n5_ n6_; (try clear hb); (try clear hb2); (try clear hk); (try clear hi); (try clear ho0); obtain ⟨Ao19, co19, eo19⟩ := Kd.R_slice HO291.out; subst eo19) | ((with_reducible refine gate_builtin (b := .append) (xs := #[.tmp 45, .tmp 46]) rfl ?_); (try (refine gate_guard (by rfl) ?_; dsimp only)); at_builtin; refine Kd.R_append_rows (Kd.int .u8) (w0 := w) w.heap.size rfl (.tmp 45) (.tmp 46) 22 5 (.int .u8 0) 1 rfl Try.underlying22 info5 rfl (by decide) (by omega) u7 x7_1 t289 _ _ _ (fun k_ => (w.heap.size ≤ k_) ∧ some k_ ≠ (.slice Ao19 t289.length co19 : Value).ownBlock) (fun _ => False) rfl rfl ?aO ?aR (fun _ _ h => h) (fun _ h => h.elim) ?aF ?aB ?aS ?aL ?_; (case aR => repeat (first | exact (Kd.R_reads' HO291.out).2.2 | (with_reducible refine Kd.C_alloc ?_ _) | (with_reducible refine Kd.C_drewN ?_ _) | (with_reducible refine Kd.C_drew ?_))); (case aB => exact (by repeat (first | (with_reducible first | exact HB.out | apply below_alloc | apply pw_below_drewN | apply below_drew1) | exact HB.out))); (case aF => exact (fun k_ hk => ⟨(Nat.le_trans (below_size (by repeat (first | (with_reducible first | exact HB.out | apply below_alloc | apply pw_below_drewN | apply below_drew1) | exact HB.out))) hk), Kd.fresh' (Kd.R_lt (by (with_reducible repeat (first | apply Kd.R_alloc | apply Kd.R_drewN | apply Kd.R_drew)); exact HO291.out)) k_ hk⟩)); (case aO => exact (by (with_reducible repeat (first | apply Kd.R_alloc | apply Kd.R_drewN | apply Kd.R_drew)); exact HO_7.out)); (case aS => exact (below_size (by repeat (first | (with_reducible first | exact HB.out | apply below_alloc | apply pw_below_drewN | apply below_drew1) | exact HB.out)))); (case aL => have := LMc16.out; omega); intro v294 w18 ho hb hg hat; rw [← Ny293.out] at ho; have n0_ := Aside0.mk (Kd.N_afterv (ok := (fun k_ => ((P0_ k_ ∨ P2_ k_) ∨ w.heap.size ≤ k_) ∧ some k_ ≠ (.slice Ao19 t289.length co19 : Value).ownBlock)) (by (with_reducible repeat (first | apply Kd.N_alloc | apply Kd.N_drewN | apply Kd.N_drew)); exact Kd.N_mono HO_0.out (fun _ hk => ⟨⟨hk.1.1, hk.2⟩, hk.1.2⟩)) hg hat); have n1_ := Aside0.mk (Kd.V_afterv (ok := (fun k_ => ((P0_ k_ ∨ P2_ k_) ∨ w.heap.size ≤ k_) ∧ some k_ ≠ (.slice (some ad288) t284.length co8 : Value).ownBlock ∧ some k_ ≠ (.slice Ao19 t289.length co19 : Value).ownBlock)) (by (with_reducible repeat (first | apply Kd.V_alloc | apply Kd.V_drewN | apply Kd.V_drew)); exact Kd.V_mono HO_2.out (fun _ hk => ⟨⟨hk.1.1, ⟨hk.1.2.1, hk.2⟩⟩, hk.1.2.2⟩)) hg hat); have n2_ := Aside0.mk (Kd.V_afterv (ok := (fun k_ => ((P0_ k_ ∨ P2_ k_) ∨ w.heap.size ≤ k_) ∧ some k_ ≠ (.slice (some ad288) t284.length co8 : Value).ownBlock ∧ some k_ ≠ (.slice Ao19 t289.length co19 : Value).ownBlock)) (by (with_reducible repeat (first | apply Kd.V_alloc | apply Kd.V_drewN | apply Kd.V_drew)); exact Kd.V_mono HL288_0.out (fun _ hk => ⟨⟨hk.1.1.1, ⟨hk.1.2, hk.2⟩⟩, hk.1.1.2⟩)) hg hat); have n3_ := Aside0.mk (Kd.R_after (ok := (fun k_ => (w.heap.size ≤ k_))) (by (with_reducible repeat (first | apply Kd.R_alloc | apply Kd.R_drewN | apply Kd.R_drew)); exact Kd.R_mono HO291.out (fun _ hk => ⟨hk.1.1, hk.2⟩)) hg hat); have n4_ := Aside0.mk (hb); have n5_ := Aside0.mk (ho); clear HO_0; clear HO_2; clear HL288_0; clear HO291; clear HB; clear HO_7; have HO_0 := n0_; have HO_2 := n1_; have HL288_0 := n2_; have HO291 := n3_; have HB := n4_; have HO295 := n5_; clear n0_ n1_ n2_ n3_ n4_ n5_; clear ho hb hg hat))
                      go_roundg kj6
                      case measure => have := HK1.out; have := HJ6.out; omega
                      case rel => exact ⟨(y293), (wrap64 (x8_1 + 1)), (by first | rfl | (simp; done) | (simp [*]; done)), H', ⟨by have := HK1.out; have := HJ6.out; omega⟩, ⟨by (with_reducible repeat (first | apply Kd.N_alloc | apply Kd.N_drewN | apply Kd.N_drew)); exact Kd.N_mono HO_0.out (fun _ hk => ⟨hk.1.1, hk.2⟩)⟩, ⟨by (with_reducible repeat (first | apply Kd.V_alloc | apply Kd.V_drewN | apply Kd.V_drew)); exact Kd.V_mono HO_2.out (fun _ hk => ⟨hk.1.1, ⟨hk.1.2.1, hk.2⟩⟩)⟩, ⟨by (with_reducible repeat (first | apply Kd.R_alloc | apply Kd.R_drewN | apply Kd.R_drew)); exact Kd.R_mono HO295.out (fun _ hk => hk.1)⟩, ⟨by repeat (first | (with_reducible first | exact HB.out | apply below_alloc | apply pw_below_drewN | apply below_drew1) | exact HB.out)⟩⟩
                    · rw [if_neg c16] at H
                      exact absurd H (by simp)
                  · rw [if_neg c15] at H
                    have c15b0 : (t292 == 0) = false := beq_eq_false_iff_ne.mpr c15
                    have c15b1 : (t292 != 0) = true := bne_iff_ne.mpr c15
                    exact absurd (Option.some.inj H) (by simp)
                · rw [if_neg c13] at H
                  exact absurd H (by simp)
              · rw [if_neg c12] at H
                exact absurd H (by simp)
            · replace c11 := Bool.eq_false_iff.mpr c11
              subst c11
              have H1 : (if 0 ≤ x8_1 then (if x8_1 < (t284.length : Int) then ((journal_Encode.f kj6 1 (rd_L1 t284 x8_1)).bind fun bt297 => (if bt297.2 = 0 then (if x7_1.length + bt297.1.length < 140737488355328 then (customslaw34_JournalScan.l0 kj6 t284 l1 l2 (x7_1 ++ bt297.1) (wrap64 (x8_1 + 1))) else (none)) else (some false))) else (none)) else (none)) = some true := by rw [if_neg (show ¬ (false = true) by decide)] at H; exact H
              clear H
              have H := H1
              clear H1
              by_cases c20 : 0 ≤ x8_1
              · rw [if_pos c20] at H
                have c20b0 : decide (0 ≤ x8_1) = true := decide_eq_true c20
                clear c20
                by_cases c21 : x8_1 < (t284.length : Int)
                · rw [if_pos c21] at H
                  have c21b0 : decide (x8_1 < (t284.length : Int)) = true := decide_eq_true c21
                  clear c21
                  replace H := Option.bind_eq_some_iff.mp H
                  obtain ⟨⟨t297, t300⟩, A220, H⟩ := H
                  replace H : (if t300 = 0 then (if x7_1.length + t297.length < 140737488355328 then (customslaw34_JournalScan.l0 kj6 t284 l1 l2 (x7_1 ++ t297) (wrap64 (x8_1 + 1))) else (none)) else (some false)) = some true := H
                  have A22 := Aside0.mk A220
                  clear A220
                  by_cases c23 : t300 = 0
                  · rw [if_pos c23] at H
                    have c23b0 : (t300 == 0) = true := beq_iff_eq.mpr c23
                    have c23b1 : (t300 != 0) = false := bne_eq_false_iff_eq.mpr c23
                    clear c23
                    by_cases c24 : x7_1.length + t297.length < 140737488355328
                    · rw [if_pos c24] at H
                      have LMc24 := Aside0.mk c24
                      clear c24
                      obtain ⟨y301, hy301⟩ : ∃ y_ : List Int, y_ = (x7_1 ++ t297) := ⟨_, rfl⟩
                      replace H : (customslaw34_JournalScan.l0 kj6 t284 l1 l2 y301 (wrap64 (x8_1 + 1))) = some true := by first | (rw [hy301]; with_reducible exact H) | (have H2_ := (Option.bind_some _ _).symm.trans H; rw [hy301]; with_reducible exact H2_) | (have H2_ := (Option.bind_some _ _).symm.trans H; with_reducible exact H2_) | with_reducible exact H | (rw [hy301]; exact H) | exact H
                      have Ny301 := Aside0.mk hy301
                      clear hy301
                      have H' := Aside0.mk H
                      clear H
                      have p296 : 0 ≤ (x8_1 : Int) := of_decide_eq_true (by first | (with_reducible assumption) | assumption)
                      have q296 : x8_1 < (t284.length : Int) := of_decide_eq_true (by first | (with_reducible assumption) | assumption)
                      obtain ⟨ad296, A296_0, c296_0, e296, hx296_0, hl296_0, hi296_0⟩ := at_L1 (Kd.N_reads' HO_0.out).2.2 x8_1 p296 q296
                      cases e296
                      obtain ⟨ce296, hce296, hMe296, hcc296⟩ := Kd.N_get HO_0.out [] x8_1 p296 (by first | exact q296 | exact of_decide_eq_true (by first | (with_reducible assumption) | assumption) | (have e_ := (Kd.N_reads' HO_0.out).1; omega))
                      obtain ⟨ua296_0, uc296_0, rfl, ul296_0, ge296_0⟩ := Kd.FK_slice_open hMe296
                      have hv296_0 := hcc296 0 _ rfl
                      rw [Nat.add_zero, show ((Kd.slice 5 (Kd.int .u8))).sz = 1 from rfl, Nat.mul_one] at hv296_0
                      replace hv296_0 := Option.some.inj (hv296_0.symm.trans hx296_0)
                      injection hv296_0 with hva_ hvn_ hvc_
                      rw [hva_] at ge296_0
                      rw [hvc_] at ul296_0
                      have HL296_0 := Aside0.mk (show Kd.V (Kd.int .u8) 5 _ w.heap.size _ _ (rd_L1 t284 x8_1) from Kd.V_mk ul296_0 ge296_0)
                      clear hva_ hvn_ hvc_ ge296_0 ul296_0
                      clear hcc296 hce296
                      have HR296_0 := Aside0.mk hi296_0
                      have HC296_0 := Aside0.mk hl296_0
                      clear hi296_0 hl296_0
                      replace p296 := eq_true p296
                      replace q296 := eq_true q296
                      go_wp2_with (first | ((with_reducible refine gate_callee (f := 28) rfl ?_); refine goesL_ (some 40) rfl rfl Try.func28 (by kernel_rfl) rfl #[.agg #[.int .i64 1, .slice A296_0 (rd_L1 t284 x8_1).length c296_0]] rfl (by (try simp only [List.map_toArray, List.map_cons, List.map_nil]); first | done | rfl | (simp only [List.length_drop, List.length_take]; rfl)) ?_; (with_reducible refine (journal_Encode.calls kj6 1 _ _ (rd_L1 t284 x8_1) t297 t300 _ ?side1 ?side2 A22.out).mono ?_); (case side1 => repeat (first | exact (by repeat (first | (with_reducible exact HR296_0.out) | (with_reducible refine Kd.C_alloc ?_ _) | (with_reducible refine Kd.C_drewN ?_ _) | (with_reducible refine Kd.C_drew ?_) | exact HR296_0.out)) | (with_reducible refine Kd.C_alloc ?_ _) | (with_reducible refine Kd.C_drewN ?_ _) | (with_reducible refine Kd.C_drew ?_))); (case side2 => exact HC296_0.out); rintro e w25 ⟨v298, rfl, ho0, hb⟩; refine ⟨_, rfl, ?_⟩; have n0_ := Aside0.mk (Kd.N_elder' (by (with_reducible repeat (first | apply Kd.N_alloc | apply Kd.N_drewN | apply Kd.N_drew)); exact HO_0.out) (Kd.R_base ho0) hb); have n1_ := Aside0.mk (Kd.V_elder' (by (with_reducible repeat (first | apply Kd.V_alloc | apply Kd.V_drewN | apply Kd.V_drew)); exact HO_2.out) (Kd.R_base ho0) hb); have n2_ := Aside0.mk (Kd.R_elder' (by (with_reducible repeat (first | apply Kd.R_alloc | apply Kd.R_drewN | apply Kd.R_drew)); exact HO_7.out) (Kd.R_base ho0) hb); have n3_ := Aside0.mk (Kd.V_elder' (by (with_reducible repeat (first | apply Kd.V_alloc | apply Kd.V_drewN | apply Kd.V_drew)); exact HL296_0.out) (Kd.R_base ho0) hb); have n4_ := Aside0.mk (Kd.R_lower (Kd.R_new' (Kd.R_newM (M := fun k_ => (w.heap.size ≤ k_)) ho0 (below_size (by repeat (first | (with_reducible first | exact HB.out | apply below_alloc | apply pw_below_drewN | apply below_drew1) | exact HB.out))) (fun k_ h_ => h_)) (Kd.R_lt (by (with_reducible repeat (first | apply Kd.R_alloc | apply Kd.R_drewN | apply Kd.R_drew)); exact HO_7.out))) (below_size (by repeat (first | (with_reducible first | exact HB.out | apply below_alloc | apply pw_below_drewN | apply below_drew1) | exact HB.out)))); have n5_ := Aside0.mk (Kd.C_below (by repeat (first | (with_reducible exact HR296_0.out) | (with_reducible refine Kd.C_alloc ?_ _) | (with_reducible refine Kd.C_drewN ?_ _) | (with_reducible refine Kd.C_drew ?_) | exact HR296_0.out)) hb); have n6_ := Aside0.mk (below_step (by repeat (first | (with_reducible first | exact HB.out | apply below_alloc | apply pw_below_drewN | apply below_drew1) | exact HB.out)) hb); clear HO_0; clear HO_2; clear HO_7; clear HL296_0; clear HR296_0; clear HB; have HO_0 := n0_; have HO_2 := n1_; have HO_7 := n2_; have HL296_0 := n3_; have HO299 := n4_; have HR296_0 := n5_; have HB := n6_; clear n0_ n1_ n2_ n3_ n4_ n5_ n6_; (try clear hb); (try clear hb2); (try clear hk); (try clear hi); (try clear ho0); obtain ⟨Ao27, co27, eo27⟩ := Kd.R_slice HO299.out; subst eo27) | ((with_reducible refine gate_builtin (b := .append) (xs := #[.tmp 45, .tmp 46]) rfl ?_); (try (refine gate_guard (by rfl) ?_; dsimp only)); at_builtin; refine Kd.R_append_rows (Kd.int .u8) (w0 := w) w.heap.size rfl (.tmp 45) (.tmp 46) 22 5 (.int .u8 0) 1 rfl Try.underlying22 info5 rfl (by decide) (by omega) u7 x7_1 t297 _ _ _ (fun k_ => (w.heap.size ≤ k_) ∧ some k_ ≠ (.slice Ao27 t297.length co27 : Value).ownBlock) (fun _ => False) rfl rfl ?aO ?aR (fun _ _ h => h) (fun _ h => h.elim) ?aF ?aB ?aS ?aL ?_; (case aR => repeat (first | exact (Kd.R_reads' HO299.out).2.2 | (with_reducible refine Kd.C_alloc ?_ _) | (with_reducible refine Kd.C_drewN ?_ _) | (with_reducible refine Kd.C_drew ?_))); (case aB => exact (by repeat (first | (with_reducible first | exact HB.out | apply below_alloc | apply pw_below_drewN | apply below_drew1) | exact HB.out))); (case aF => exact (fun k_ hk => ⟨(Nat.le_trans (below_size (by repeat (first | (with_reducible first | exact HB.out | apply below_alloc | apply pw_below_drewN | apply below_drew1) | exact HB.out))) hk), Kd.fresh' (Kd.R_lt (by (with_reducible repeat (first | apply Kd.R_alloc | apply Kd.R_drewN | apply Kd.R_drew)); exact HO299.out)) k_ hk⟩)); (case aO => exact (by (with_reducible repeat (first | apply Kd.R_alloc | apply Kd.R_drewN | apply Kd.R_drew)); exact HO_7.out)); (case aS => exact (below_size (by repeat (first | (with_reducible first | exact HB.out | apply below_alloc | apply pw_below_drewN | apply below_drew1) | exact HB.out)))); (case aL => have := LMc24.out; omega); intro v302 w26 ho hb hg hat; rw [← Ny301.out] at ho; have n0_ := Aside0.mk (Kd.N_afterv (ok := (fun k_ => ((P0_ k_ ∨ P2_ k_) ∨ w.heap.size ≤ k_) ∧ some k_ ≠ (.slice Ao27 t297.length co27 : Value).ownBlock)) (by (with_reducible repeat (first | apply Kd.N_alloc | apply Kd.N_drewN | apply Kd.N_drew)); exact Kd.N_mono HO_0.out (fun _ hk => ⟨⟨hk.1.1, hk.2⟩, hk.1.2⟩)) hg hat); have n1_ := Aside0.mk (Kd.V_afterv (ok := (fun k_ => ((P0_ k_ ∨ P2_ k_) ∨ w.heap.size ≤ k_) ∧ some k_ ≠ (.slice (some ad296) t284.length co8 : Value).ownBlock ∧ some k_ ≠ (.slice Ao27 t297.length co27 : Value).ownBlock)) (by (with_reducible repeat (first | apply Kd.V_alloc | apply Kd.V_drewN | apply Kd.V_drew)); exact Kd.V_mono HO_2.out (fun _ hk => ⟨⟨hk.1.1, ⟨hk.1.2.1, hk.2⟩⟩, hk.1.2.2⟩)) hg hat); have n2_ := Aside0.mk (Kd.V_afterv (ok := (fun k_ => ((P0_ k_ ∨ P2_ k_) ∨ w.heap.size ≤ k_) ∧ some k_ ≠ (.slice (some ad296) t284.length co8 : Value).ownBlock ∧ some k_ ≠ (.slice Ao27 t297.length co27 : Value).ownBlock)) (by (with_reducible repeat (first | apply Kd.V_alloc | apply Kd.V_drewN | apply Kd.V_drew)); exact Kd.V_mono HL296_0.out (fun _ hk => ⟨⟨hk.1.1.1, ⟨hk.1.2, hk.2⟩⟩, hk.1.1.2⟩)) hg hat); have n3_ := Aside0.mk (Kd.R_after (ok := (fun k_ => (w.heap.size ≤ k_))) (by (with_reducible repeat (first | apply Kd.R_alloc | apply Kd.R_drewN | apply Kd.R_drew)); exact Kd.R_mono HO299.out (fun _ hk => ⟨hk.1.1, hk.2⟩)) hg hat); have n4_ := Aside0.mk (hb); have n5_ := Aside0.mk (ho); clear HO_0; clear HO_2; clear HL296_0; clear HO299; clear HB; clear HO_7; have HO_0 := n0_; have HO_2 := n1_; have HL296_0 := n2_; have HO299 := n3_; have HB := n4_; have HO303 := n5_; clear n0_ n1_ n2_ n3_ n4_ n5_; clear ho hb hg hat))
                      go_roundg kj6
                      case measure => have := HK1.out; have := HJ6.out; omega
                      case rel => exact ⟨(y301), (wrap64 (x8_1 + 1)), (by first | rfl | (simp; done) | (simp [*]; done)), H', ⟨by have := HK1.out; have := HJ6.out; omega⟩, ⟨by (with_reducible repeat (first | apply Kd.N_alloc | apply Kd.N_drewN | apply Kd.N_drew)); exact Kd.N_mono HO_0.out (fun _ hk => ⟨hk.1.1, hk.2⟩)⟩, ⟨by (with_reducible repeat (first | apply Kd.V_alloc | apply Kd.V_drewN | apply Kd.V_drew)); exact Kd.V_mono HO_2.out (fun _ hk => ⟨hk.1.1, ⟨hk.1.2.1, hk.2⟩⟩)⟩, ⟨by (with_reducible repeat (first | apply Kd.R_alloc | apply Kd.R_drewN | apply Kd.R_drew)); exact Kd.R_mono HO303.out (fun _ hk => hk.1)⟩, ⟨by repeat (first | (with_reducible first | exact HB.out | apply below_alloc | apply pw_below_drewN | apply below_drew1) | exact HB.out)⟩⟩
                    · rw [if_neg c24] at H
                      exact absurd H (by simp)
                  · rw [if_neg c23] at H
                    have c23b0 : (t300 == 0) = false := beq_eq_false_iff_ne.mpr c23
                    have c23b1 : (t300 != 0) = true := bne_iff_ne.mpr c23
                    exact absurd (Option.some.inj H) (by simp)
                · rw [if_neg c21] at H
                  exact absurd H (by simp)
              · rw [if_neg c20] at H
                exact absurd H (by simp)
      · rw [if_neg c6] at H
        have c6b0 : decide (x8_1 < (t284.length : Int)) = false := decide_eq_false c6
        clear c6
        have HC28 := Aside0.mk H
        clear H
        obtain ⟨Ao29, co29, eo29⟩ := Kd.N_slice HO_0.out
        subst eo29
        go_upto_if 50 with (fail)
        go_cut [2] (fun v2 wc => ∃ (kq : Nat) (x2_27 : List Int), Aside0 (customslaw34_JournalScan.j2 kq t284 l1 x2_27 x7_1 = some true) ∧ Aside0 (kq ≤ k1) ∧ Aside0 (Kd.N (Kd.slice 5 (Kd.int .u8)) 22 wc w.heap.size (fun k_ => ((P0_ k_ ∨ P2_ k_) ∨ w.heap.size ≤ k_) ∧ some k_ ≠ (u7 : Value).ownBlock) (.slice Ao29 t284.length co29) t284) ∧ Aside0 (Kd.V (Kd.int .u8) 5 wc w.heap.size (fun k_ => ((P0_ k_ ∨ P2_ k_) ∨ w.heap.size ≤ k_) ∧ some k_ ≠ ((.slice Ao29 t284.length co29) : Value).ownBlock ∧ some k_ ≠ (u7 : Value).ownBlock) v2 x2_27) ∧ Aside0 (Kd.R (Kd.int .u8) 5 wc w.heap.size (fun k_ => (w.heap.size ≤ k_)) u7 x7_1) ∧ Aside0 (Below w.heap.size w wc))
        case first =>
          have H := HC28.out
          clear HC28
          by_cases c30 : (l2.length : Int) > 6
          · rw [if_pos c30] at H
            have c30b0 : decide (6 < (l2.length : Int)) = true := decide_eq_true c30
            have c30b1 : decide (6 < l2.length) = true := decide_eq_true (by omega)
            clear c30
            (first | rw [c30b0] | (simp only [i64_w, i32_w]; rw [c30b0]) | skip)
            by_cases c31 : 6 ≤ (l2.length : Int)
            · rw [if_pos c31] at H
              have c31b0 := eq_true c31
              have c31b1 : decide (6 ≤ (l2.length : Int)) = true := decide_eq_true c31
              clear c31
              obtain ⟨y304, hy304⟩ : ∃ y_ : List Int, y_ = (l2.take 6) := ⟨_, rfl⟩
              replace H : (customslaw34_JournalScan.j2 k1 t284 l1 y304 x7_1) = some true := by first | (rw [hy304]; with_reducible exact H) | (have H2_ := (Option.bind_some _ _).symm.trans H; rw [hy304]; with_reducible exact H2_) | (have H2_ := (Option.bind_some _ _).symm.trans H; with_reducible exact H2_) | with_reducible exact H | (rw [hy304]; exact H) | exact H
              have Ny304 := Aside0.mk hy304
              clear hy304
              have H' := Aside0.mk H
              clear H
              have q32 : (6 : Int) ≤ ((l2.length : Int) : Int) := of_decide_eq_true (by first | (with_reducible assumption) | assumption)
              obtain ⟨i032, hi032, _, hsz32, _⟩ := info_parts info5
              have hroom32 : l2.length ≤ c2 := (Kd.V_reads' HO_2.out).2.1
              have hC32 : Kd.F (Kd.int .u8) _ _ A2 l2.length l2 := (Kd.V_at (base := w.heap.size) HO_2.out).2.2
              have hcut32 := cut_to (P := Try.prog) 22 5 .i64 Try.underlying22 hi032 A2 l2.length c2 6 (by omega) q32 hroom32
              have hr32 := Kd.F_take (m := 6) hC32 (by omega)
              have hy32 : y304.length = (6 : Int).toNat := (by rw [Ny304.out, List.length_take]; omega)
              rw [← Ny304.out] at hr32
              rw [← hy32] at hcut32
              have HO308 := Aside0.mk (show Kd.V (Kd.int .u8) 5 _ w.heap.size _ (.slice A2 y304.length c2) y304 from Kd.V_mk (by omega) hr32)
              have HC308 := Aside0.mk (show y304.length ≤ c2 from by omega)
              clear hr32 hC32 hroom32 hi032 hsz32
              have KY32 := Aside0.mk hy32
              clear hy32
              replace q32 := eq_true q32
              go_wp2
              go_meet
              case rel => exact ⟨_, (y304), H', ⟨by have := HK1.out; first | omega | exact Nat.le_refl _⟩, ⟨by (with_reducible repeat (first | apply Kd.N_alloc | apply Kd.N_drewN | apply Kd.N_drew)); exact HO_0.out⟩, ⟨by (with_reducible repeat (first | apply Kd.V_alloc | apply Kd.V_drewN | apply Kd.V_drew)); exact HO308.out⟩, ⟨by (with_reducible repeat (first | apply Kd.R_alloc | apply Kd.R_drewN | apply Kd.R_drew)); exact HO_7.out⟩, ⟨by repeat (first | (with_reducible first | exact HB.out | apply below_alloc | apply pw_below_drewN | apply below_drew1) | exact HB.out)⟩⟩
            · rw [if_neg c31] at H
              exact absurd H (by simp)
          · rw [if_neg c30] at H
            have c30b0 : decide (6 < (l2.length : Int)) = false := decide_eq_false c30
            have c30b1 : decide (6 < l2.length) = false := decide_eq_false (by omega)
            clear c30
            (first | rw [c30b0] | (simp only [i64_w, i32_w]; rw [c30b0]) | skip)
            have H' := Aside0.mk H
            clear H
            go_wp2
            go_meet
            case rel => exact ⟨_, (l2), H', ⟨by have := HK1.out; first | omega | exact Nat.le_refl _⟩, ⟨by (with_reducible repeat (first | apply Kd.N_alloc | apply Kd.N_drewN | apply Kd.N_drew)); exact HO_0.out⟩, ⟨by (with_reducible repeat (first | apply Kd.V_alloc | apply Kd.V_drewN | apply Kd.V_drew)); exact HO_2.out⟩, ⟨by (with_reducible repeat (first | apply Kd.R_alloc | apply Kd.R_drewN | apply Kd.R_drew)); exact HO_7.out⟩, ⟨by repeat (first | (with_reducible first | exact HB.out | apply below_alloc | apply pw_below_drewN | apply below_drew1) | exact HB.out)⟩⟩
        case rest =>
          clear HC28
          try clear c1
          try clear c2
          try clear p2
          try clear q2
          try clear hx2
          try clear c3
          try clear q3
          try clear c6
          try clear c6b0
          try clear p6
          try clear c8
          try clear c9
          try clear c9b0
          try clear c10
          try clear c10b0
          try clear c11
          try clear c12
          try clear c12b0
          try clear c13
          try clear c13b0
          try clear c15
          try clear c15b0
          try clear c15b1
          try clear c16
          try clear c20
          try clear c20b0
          try clear c21
          try clear c21b0
          try clear c23
          try clear c23b0
          try clear c23b1
          try clear c24
          try clear c28
          try clear p28
          try clear q28
          try clear hx28
          try clear c29
          try clear p29
          try clear q29
          try clear hx29
          try clear c30
          try clear c30b0
          try clear c30b1
          try clear c31
          try clear c31b0
          try clear c31b1
          try clear q32
          try clear hx287_0
          try clear hx288_0
          try clear hx296_0
          try clear p2
          try clear p287
          try clear p288
          try clear p296
          try clear q2
          try clear q287
          try clear q288
          try clear q296
          try clear q32
          obtain ⟨kq, x2_27, HA, HJ27, HO_0, HO_2, HO_7, HB⟩ := hcut
          cases kq with
          | zero => exact absurd HA.out (by simp [customslaw34_JournalScan.j2])
          | succ kj27 =>
            have H := HA.out
            clear HA
            simp only [customslaw34_JournalScan.j2] at H
            obtain ⟨y309, hy309⟩ : ∃ y_ : List Int, y_ = (([] : List Int)) := ⟨_, rfl⟩
            replace H : (if y309.length + x7_1.length < 140737488355328 then ((some (y309 ++ x7_1 : List Int)).bind fun y312 => (if y312.length + x2_27.length < 140737488355328 then ((journal_Scan.f kj27 (y312 ++ x2_27)).bind fun bt318 => (if bt318.2 = (x7_1.length : Int) then (customslaw34_JournalScan.j3 kj27 t284 l1 bt318.1 ((bt318.1.length : Int) != (t284.length : Int))) else (customslaw34_JournalScan.j3 kj27 t284 l1 bt318.1 true))) else (none))) else (none)) = some true := by first | (rw [hy309]; with_reducible exact H) | (have H2_ := (Option.bind_some _ _).symm.trans H; rw [hy309]; with_reducible exact H2_) | (have H2_ := (Option.bind_some _ _).symm.trans H; with_reducible exact H2_) | with_reducible exact H | (rw [hy309]; exact H) | exact H
            have Ny309 := Aside0.mk hy309
            clear hy309
            by_cases c33 : y309.length + x7_1.length < 140737488355328
            · rw [if_pos c33] at H
              have LMc33 := Aside0.mk c33
              clear c33
              obtain ⟨y312, hy312⟩ : ∃ y_ : List Int, y_ = (y309 ++ x7_1) := ⟨_, rfl⟩
              replace H : (if y312.length + x2_27.length < 140737488355328 then ((journal_Scan.f kj27 (y312 ++ x2_27)).bind fun bt318 => (if bt318.2 = (x7_1.length : Int) then (customslaw34_JournalScan.j3 kj27 t284 l1 bt318.1 ((bt318.1.length : Int) != (t284.length : Int))) else (customslaw34_JournalScan.j3 kj27 t284 l1 bt318.1 true))) else (none)) = some true := by first | (rw [hy312]; with_reducible exact H) | (have H2_ := (Option.bind_some _ _).symm.trans H; rw [hy312]; with_reducible exact H2_) | (have H2_ := (Option.bind_some _ _).symm.trans H; with_reducible exact H2_) | with_reducible exact H | (rw [hy312]; exact H) | exact H
              have Ny312 := Aside0.mk hy312
              clear hy312
              by_cases c34 : y312.length + x2_27.length < 140737488355328
              · rw [if_pos c34] at H
                have LMc34 := Aside0.mk c34
                clear c34
                obtain ⟨y315, hy315⟩ : ∃ y_ : List Int, y_ = (y312 ++ x2_27) := ⟨_, rfl⟩
                replace H : ((journal_Scan.f kj27 y315).bind fun bt318 => (if bt318.2 = (x7_1.length : Int) then (customslaw34_JournalScan.j3 kj27 t284 l1 bt318.1 ((bt318.1.length : Int) != (t284.length : Int))) else (customslaw34_JournalScan.j3 kj27 t284 l1 bt318.1 true))) = some true := by first | (rw [hy315]; with_reducible exact H) | (have H2_ := (Option.bind_some _ _).symm.trans H; rw [hy315]; with_reducible exact H2_) | (have H2_ := (Option.bind_some _ _).symm.trans H; with_reducible exact H2_) | with_reducible exact H | (rw [hy315]; exact H) | exact H
                have Ny315 := Aside0.mk hy315
                clear hy315
                replace H := Option.bind_eq_some_iff.mp H
                obtain ⟨⟨t318, t319⟩, A350, H⟩ := H
                replace H : (if t319 = (x7_1.length : Int) then (customslaw34_JournalScan.j3 kj27 t284 l1 t318 ((t318.length : Int) != (t284.length : Int))) else (customslaw34_JournalScan.j3 kj27 t284 l1 t318 true)) = some true := H
                have A35 := Aside0.mk A350
                clear A350
                have HC36 := Aside0.mk H
                clear H
                go_upto_region 16 with (first | ((with_reducible refine gate_dst (N := 54) rfl ?_); (try (refine gate_guard (by rfl) ?_; dsimp only)); refine Kd.R_lit (Kd.int .u8) _ 5 ?hg (N := 54) ?hd (xs := ([] : List Int)) (inner := []) (ok := fun _ => True) (okp := fun _ => True) ?hr ?hp (fun _ hk => hk) trivial (Below.refl _ _) (Nat.le_refl _) (by simp) ?_; (case hd => rfl); (case hg => rfl); (case hr => first | (go_simp; done) | (go_simp; rfl)); (case hp => exact (Reps.none _ _)); intro v310 w37 ho38 hb hg_ hnew_; clear hg_ hnew_; (first | rw [← Ny309.out] at ho38 | (simp only [Int.reduceToNat] at ho38; rw [← Ny309.out] at ho38)); have n0_ := Aside0.mk (Kd.N_elder' (by (with_reducible repeat (first | apply Kd.N_alloc | apply Kd.N_drewN | apply Kd.N_drew)); exact HO_0.out) (Kd.R_base ho38) hb); have n1_ := Aside0.mk (Kd.V_elder' (by (with_reducible repeat (first | apply Kd.V_alloc | apply Kd.V_drewN | apply Kd.V_drew)); exact HO_2.out) (Kd.R_base ho38) hb); have n2_ := Aside0.mk (Kd.R_elder' (by (with_reducible repeat (first | apply Kd.R_alloc | apply Kd.R_drewN | apply Kd.R_drew)); exact HO_7.out) (Kd.R_base ho38) hb); have n3_ := Aside0.mk (Kd.R_lower (Kd.R_new' (Kd.R_newM (M := fun k_ => (w.heap.size ≤ k_)) ho38 (below_size (by repeat (first | (with_reducible first | exact HB.out | apply below_alloc | apply pw_below_drewN | apply below_drew1) | exact HB.out))) (fun k_ h_ => h_)) (Kd.R_lt (by (with_reducible repeat (first | apply Kd.R_alloc | apply Kd.R_drewN | apply Kd.R_drew)); exact HO_7.out))) (below_size (by repeat (first | (with_reducible first | exact HB.out | apply below_alloc | apply pw_below_drewN | apply below_drew1) | exact HB.out)))); have n4_ := Aside0.mk (below_step (by repeat (first | (with_reducible first | exact HB.out | apply below_alloc | apply pw_below_drewN | apply below_drew1) | exact HB.out)) hb); clear HO_0; clear HO_2; clear HO_7; clear HB; have HO_0 := n0_; have HO_2 := n1_; have HO_7 := n2_; have HO311 := n3_; have HB := n4_; clear n0_ n1_ n2_ n3_ n4_; clear hb ho38; obtain ⟨Ao40, co40, eo40⟩ := Kd.R_slice HO_7.out; subst eo40) | ((with_reducible refine gate_builtin (b := .append) (xs := #[.tmp 54, .tmp 55]) rfl ?_); (try (refine gate_guard (by rfl) ?_; dsimp only)); at_builtin; refine Kd.R_append_rows (Kd.int .u8) (w0 := w) w.heap.size rfl (.tmp 54) (.tmp 55) 22 5 (.int .u8 0) 1 rfl Try.underlying22 info5 rfl (by decide) (by omega) v310 y309 x7_1 _ _ _ (fun k_ => (w.heap.size ≤ k_) ∧ some k_ ≠ (.slice Ao40 x7_1.length co40 : Value).ownBlock) (fun _ => False) rfl rfl ?aO ?aR (fun _ _ h => h) (fun _ h => h.elim) ?aF ?aB ?aS ?aL ?_; (case aR => repeat (first | exact (Kd.R_reads' HO_7.out).2.2 | (with_reducible refine Kd.C_alloc ?_ _) | (with_reducible refine Kd.C_drewN ?_ _) | (with_reducible refine Kd.C_drew ?_))); (case aB => exact (by repeat (first | (with_reducible first | exact HB.out | apply below_alloc | apply pw_below_drewN | apply below_drew1) | exact HB.out))); (case aF => exact (fun k_ hk => ⟨(Nat.le_trans (below_size (by repeat (first | (with_reducible first | exact HB.out | apply below_alloc | apply pw_below_drewN | apply below_drew1) | exact HB.out))) hk), Kd.fresh' (Kd.R_lt (by (with_reducible repeat (first | apply Kd.R_alloc | apply Kd.R_drewN | apply Kd.R_drew)); exact HO_7.out)) k_ hk⟩)); (case aO => exact (by (with_reducible repeat (first | apply Kd.R_alloc | apply Kd.R_drewN | apply Kd.R_drew)); exact Kd.R_mono HO311.out (fun _ hk => ⟨hk.1.1, hk.2⟩))); (case aS => exact (below_size (by repeat (first | (with_reducible first | exact HB.out | apply below_alloc | apply pw_below_drewN | apply below_drew1) | exact HB.out)))); (case aL => have := LMc33.out; omega); intro v313 w39 ho hb hg hat; rw [← Ny312.out] at ho; have n0_ := Aside0.mk (Kd.N_afterv (ok := (fun k_ => ((P0_ k_ ∨ P2_ k_) ∨ w.heap.size ≤ k_) ∧ some k_ ≠ (.slice Ao40 x7_1.length co40 : Value).ownBlock)) (by (with_reducible repeat (first | apply Kd.N_alloc | apply Kd.N_drewN | apply Kd.N_drew)); exact HO_0.out) hg hat); have n1_ := Aside0.mk (Kd.V_afterv (ok := (fun k_ => ((P0_ k_ ∨ P2_ k_) ∨ w.heap.size ≤ k_) ∧ some k_ ≠ (.slice Ao29 t284.length co29 : Value).ownBlock ∧ some k_ ≠ (.slice Ao40 x7_1.length co40 : Value).ownBlock)) (by (with_reducible repeat (first | apply Kd.V_alloc | apply Kd.V_drewN | apply Kd.V_drew)); exact HO_2.out) hg hat); have n2_ := Aside0.mk (Kd.R_after (ok := (fun k_ => (w.heap.size ≤ k_))) (by (with_reducible repeat (first | apply Kd.R_alloc | apply Kd.R_drewN | apply Kd.R_drew)); exact HO_7.out) hg hat); have n3_ := Aside0.mk (hb); have n4_ := Aside0.mk (ho); clear HO_0; clear HO_2; clear HO_7; clear HB; clear HO311; have HO_0 := n0_; have HO_2 := n1_; have HO_7 := n2_; have HB := n3_; have HO314 := n4_; clear n0_ n1_ n2_ n3_ n4_; clear ho hb hg hat; obtain ⟨Ao42, co42, eo42⟩ := Kd.V_slice HO_2.out; subst eo42) | ((with_reducible refine gate_builtin (b := .append) (xs := #[.tmp 56, .tmp 57]) rfl ?_); (try (refine gate_guard (by rfl) ?_; dsimp only)); at_builtin; refine Kd.R_append_rows (Kd.int .u8) (w0 := w) w.heap.size rfl (.tmp 56) (.tmp 57) 22 5 (.int .u8 0) 1 rfl Try.underlying22 info5 rfl (by decide) (by omega) v313 y312 x2_27 _ _ _ (fun k_ => (w.heap.size ≤ k_) ∧ some k_ ≠ (.slice Ao40 x7_1.length co40 : Value).ownBlock) (fun _ => False) rfl rfl ?aO ?aR (fun _ _ h => h) (fun _ h => h.elim) ?aF ?aB ?aS ?aL ?_; (case aR => repeat (first | exact (Kd.V_reads' HO_2.out).2.2 | (with_reducible refine Kd.C_alloc ?_ _) | (with_reducible refine Kd.C_drewN ?_ _) | (with_reducible refine Kd.C_drew ?_))); (case aB => exact (by repeat (first | (with_reducible first | exact HB.out | apply below_alloc | apply pw_below_drewN | apply below_drew1) | exact HB.out))); (case aF => exact (fun k_ hk => ⟨(Nat.le_trans (below_size (by repeat (first | (with_reducible first | exact HB.out | apply below_alloc | apply pw_below_drewN | apply below_drew1) | exact HB.out))) hk), Kd.fresh' (Kd.R_lt (by (with_reducible repeat (first | apply Kd.R_alloc | apply Kd.R_drewN | apply Kd.R_drew)); exact HO_7.out)) k_ hk⟩)); (case aO => exact (by (with_reducible repeat (first | apply Kd.R_alloc | apply Kd.R_drewN | apply Kd.R_drew)); exact HO314.out)); (case aS => exact (below_size (by repeat (first | (with_reducible first | exact HB.out | apply below_alloc | apply pw_below_drewN | apply below_drew1) | exact HB.out)))); (case aL => have := LMc34.out; omega); intro v316 w41 ho hb hg hat; rw [← Ny315.out] at ho; have n0_ := Aside0.mk (Kd.N_afterv (ok := (fun k_ => ((P0_ k_ ∨ P2_ k_) ∨ w.heap.size ≤ k_) ∧ some k_ ≠ (.slice Ao40 x7_1.length co40 : Value).ownBlock)) (by (with_reducible repeat (first | apply Kd.N_alloc | apply Kd.N_drewN | apply Kd.N_drew)); exact HO_0.out) hg hat); have n1_ := Aside0.mk (Kd.V_afterv (ok := (fun k_ => ((P0_ k_ ∨ P2_ k_) ∨ w.heap.size ≤ k_) ∧ some k_ ≠ (.slice Ao29 t284.length co29 : Value).ownBlock ∧ some k_ ≠ (.slice Ao40 x7_1.length co40 : Value).ownBlock)) (by (with_reducible repeat (first | apply Kd.V_alloc | apply Kd.V_drewN | apply Kd.V_drew)); exact HO_2.out) hg hat); have n2_ := Aside0.mk (Kd.R_after (ok := (fun k_ => (w.heap.size ≤ k_))) (by (with_reducible repeat (first | apply Kd.R_alloc | apply Kd.R_drewN | apply Kd.R_drew)); exact HO_7.out) hg hat); have n3_ := Aside0.mk (hb); have n4_ := Aside0.mk (ho); clear HO_0; clear HO_2; clear HO_7; clear HB; clear HO314; have HO_0 := n0_; have HO_2 := n1_; have HO_7 := n2_; have HB := n3_; have HO317 := n4_; clear n0_ n1_ n2_ n3_ n4_; clear ho hb hg hat; obtain ⟨Ao43, co43, eo43⟩ := Kd.R_slice HO317.out; subst eo43) | ((with_reducible refine gate_callee (f := 30) rfl ?_); refine goesL_ (some 59) rfl rfl Try.func30 (by kernel_rfl) rfl #[.slice Ao43 y315.length co43] rfl (by (try simp only [List.map_toArray, List.map_cons, List.map_nil]); first | done | rfl | (simp only [List.length_drop, List.length_take]; rfl)) ?_; (with_reducible refine (journal_Scan.calls kj27 _ _ y315 t318 t319 _ ?side1 ?side2 A35.out).mono ?_); (case side1 => repeat (first | exact (Kd.R_reads' HO317.out).2.2 | (with_reducible refine Kd.C_alloc ?_ _) | (with_reducible refine Kd.C_drewN ?_ _) | (with_reducible refine Kd.C_drew ?_))); (case side2 => exact (Kd.R_reads' HO317.out).2.1); rintro e w44 ⟨v320, rfl, ho0, hb⟩; refine ⟨_, rfl, ?_⟩; have n0_ := Aside0.mk (Kd.N_elder' (by (with_reducible repeat (first | apply Kd.N_alloc | apply Kd.N_drewN | apply Kd.N_drew)); exact HO_0.out) (by first | exact Kd.N_base ho0 | exact Kd.S_base ho0 | exact Kd.R_base ho0 | exact Kd.Q_base ho0) hb); have n1_ := Aside0.mk (Kd.V_elder' (by (with_reducible repeat (first | apply Kd.V_alloc | apply Kd.V_drewN | apply Kd.V_drew)); exact HO_2.out) (by first | exact Kd.N_base ho0 | exact Kd.S_base ho0 | exact Kd.R_base ho0 | exact Kd.Q_base ho0) hb); have n2_ := Aside0.mk (Kd.R_below (by (with_reducible repeat (first | apply Kd.R_alloc | apply Kd.R_drewN | apply Kd.R_drew)); exact HO_7.out) hb); have n3_ := Aside0.mk (Kd.R_below (by (with_reducible repeat (first | apply Kd.R_alloc | apply Kd.R_drewN | apply Kd.R_drew)); exact HO317.out) hb); have n4_ := Aside0.mk (Kd.N_lower (Kd.N_mono (ok' := fun k_ => ((P0_ k_ ∨ P2_ k_) ∨ w.heap.size ≤ k_) ∧ some k_ ≠ (.slice Ao29 t284.length co29 : Value).ownBlock ∧ some k_ ≠ (.slice Ao40 x7_1.length co40 : Value).ownBlock ∧ some k_ ≠ (.slice Ao43 y315.length co43 : Value).ownBlock) (Kd.S_N (Kd.S_bound ho0)) (fun k_ hk_ => ⟨(.inr (Nat.le_trans (below_size (by repeat (first | (with_reducible first | exact HB.out | apply below_alloc | apply pw_below_drewN | apply below_drew1) | exact HB.out))) hk_.2.1)), (Kd.fresh' (Kd.N_lt (by (with_reducible repeat (first | apply Kd.N_alloc | apply Kd.N_drewN | apply Kd.N_drew)); exact HO_0.out)) k_ hk_.2.1), (Kd.fresh' (Kd.R_lt (by (with_reducible repeat (first | apply Kd.R_alloc | apply Kd.R_drewN | apply Kd.R_drew)); exact HO_7.out)) k_ hk_.2.1), (Kd.fresh' (Kd.R_lt (by (with_reducible repeat (first | apply Kd.R_alloc | apply Kd.R_drewN | apply Kd.R_drew)); exact HO317.out)) k_ hk_.2.1)⟩)) (below_size (by repeat (first | (with_reducible first | exact HB.out | apply below_alloc | apply pw_below_drewN | apply below_drew1) | exact HB.out)))); have n5_ := Aside0.mk (below_step (by repeat (first | (with_reducible first | exact HB.out | apply below_alloc | apply pw_below_drewN | apply below_drew1) | exact HB.out)) hb); clear HO_0; clear HO_2; clear HO_7; clear HO317; clear HB; have HO_0 := n0_; have HO_2 := n1_; have HO_7 := n2_; have HO317 := n3_; have HO321 := n4_; have HB := n5_; clear n0_ n1_ n2_ n3_ n4_ n5_; (try clear hb); (try clear hb2); (try clear hk); (try clear hi); (try clear ho0)))
                (try simp only [Act.put, List.setIfInBounds_toArray, List.set_cons_zero, List.set_cons_succ])
                go_cut [72] (fun v72 wc => ∃ (kq : Nat) (x72_35 : Bool), v72 = .bool x72_35 ∧ Aside0 (customslaw34_JournalScan.j3 kq t284 l1 t318 x72_35 = some true) ∧ Aside0 (kq ≤ kj27) ∧ Aside0 (Kd.N (Kd.slice 5 (Kd.int .u8)) 22 wc w.heap.size (fun k_ => ((P0_ k_ ∨ P2_ k_) ∨ w.heap.size ≤ k_) ∧ some k_ ≠ (v320 : Value).ownBlock) (.slice Ao29 t284.length co29) t284) ∧ Aside0 (Kd.N k43 43 wc w.heap.size (fun k_ => ((P0_ k_ ∨ P2_ k_) ∨ w.heap.size ≤ k_) ∧ some k_ ≠ ((.slice Ao29 t284.length co29) : Value).ownBlock) v320 t318) ∧ Aside0 (Below w.heap.size w wc))
                case first =>
                  have H := HC36.out
                  clear HC36
                  by_cases c45 : t319 = (x7_1.length : Int)
                  · rw [if_pos c45] at H
                    have c45b0 : (t319 == (x7_1.length : Int)) = true := beq_iff_eq.mpr c45
                    have c45b1 : (t319 != (x7_1.length : Int)) = false := bne_eq_false_iff_eq.mpr c45
                    clear c45
                    (first | rw [c45b0] | (simp only [i64_w, i32_w]; rw [c45b0]) | skip)
                    have H' := Aside0.mk H
                    clear H
                    obtain ⟨Ao46, co46, eo46⟩ := Kd.N_slice HO321.out
                    subst eo46
                    go_wp2
                    go_meet
                    case rel => exact ⟨_, (((t318.length : Int) != (t284.length : Int))), (by first | rfl | (simp; done) | (simp [*]; done)), H', ⟨by have := HK1.out; have := HJ27.out; first | omega | exact Nat.le_refl _⟩, ⟨by (with_reducible repeat (first | apply Kd.N_alloc | apply Kd.N_drewN | apply Kd.N_drew)); exact Kd.N_mono HO_0.out (fun _ hk => ⟨hk.1.1.1, hk.2⟩)⟩, ⟨by (with_reducible repeat (first | apply Kd.N_alloc | apply Kd.N_drewN | apply Kd.N_drew)); exact Kd.N_mono HO321.out (fun _ hk => ⟨hk.1, hk.2.1⟩)⟩, ⟨by repeat (first | (with_reducible first | exact HB.out | apply below_alloc | apply pw_below_drewN | apply below_drew1) | exact HB.out)⟩⟩
                  · rw [if_neg c45] at H
                    have c45b0 : (t319 == (x7_1.length : Int)) = false := beq_eq_false_iff_ne.mpr c45
                    have c45b1 : (t319 != (x7_1.length : Int)) = true := bne_iff_ne.mpr c45
                    (first | rw [c45b0] | (simp only [i64_w, i32_w]; rw [c45b0]) | skip)
                    have H' := Aside0.mk H
                    clear H
                    go_wp2
                    go_meet
                    case rel => exact ⟨_, (true), (by first | rfl | (simp; done) | (simp [*]; done)), H', ⟨by have := HK1.out; have := HJ27.out; first | omega | exact Nat.le_refl _⟩, ⟨by (with_reducible repeat (first | apply Kd.N_alloc | apply Kd.N_drewN | apply Kd.N_drew)); exact Kd.N_mono HO_0.out (fun _ hk => ⟨hk.1.1.1, hk.2⟩)⟩, ⟨by (with_reducible repeat (first | apply Kd.N_alloc | apply Kd.N_drewN | apply Kd.N_drew)); exact Kd.N_mono HO321.out (fun _ hk => ⟨hk.1, hk.2.1⟩)⟩, ⟨by repeat (first | (with_reducible first | exact HB.out | apply below_alloc | apply pw_below_drewN | apply below_drew1) | exact HB.out)⟩⟩
                case rest =>
                  clear HC36
                  try clear c1
                  try clear c2
                  try clear p2
                  try clear q2
                  try clear hx2
                  try clear c3
                  try clear q3
                  try clear c4
                  try clear c6
                  try clear c6b0
                  try clear p6
                  try clear c8
                  try clear c9
                  try clear c9b0
                  try clear c10
                  try clear c10b0
                  try clear c11
                  try clear c12
                  try clear c12b0
                  try clear c13
                  try clear c13b0
                  try clear c15
                  try clear c15b0
                  try clear c15b1
                  try clear c16
                  try clear c20
                  try clear c20b0
                  try clear c21
                  try clear c21b0
                  try clear c23
                  try clear c23b0
                  try clear c23b1
                  try clear c24
                  try clear c28
                  try clear p28
                  try clear q28
                  try clear hx28
                  try clear c29
                  try clear p29
                  try clear q29
                  try clear hx29
                  try clear c30
                  try clear c30b0
                  try clear c30b1
                  try clear c31
                  try clear c31b0
                  try clear c31b1
                  try clear q32
                  try clear c33
                  try clear c34
                  try clear c45
                  try clear c45b0
                  try clear c45b1
                  try clear hx287_0
                  try clear hx288_0
                  try clear hx296_0
                  try clear p2
                  try clear p28
                  try clear p287
                  try clear p288
                  try clear p29
                  try clear p296
                  try clear p6
                  try clear q2
                  try clear q28
                  try clear q287
                  try clear q288
                  try clear q29
                  try clear q296
                  try clear q3
                  try clear q32
                  obtain ⟨kq, x72_35, rfl, HA, HJ35, HO_0, HO_12, HB⟩ := hcut
                  cases kq with
                  | zero => exact absurd HA.out (by simp [customslaw34_JournalScan.j3])
                  | succ kj35 =>
                    have H := HA.out
                    clear HA
                    simp only [customslaw34_JournalScan.j3] at H
                    by_cases c47 : x72_35 = true
                    · subst c47
                      have H1 : (some false) = some true := by rw [if_pos rfl] at H; exact H
                      clear H
                      have H := H1
                      clear H1
                      exact absurd (Option.some.inj H) (by simp)
                    · replace c47 := Bool.eq_false_iff.mpr c47
                      subst c47
                      have H1 : (customslaw34_JournalScan.l1 kj35 t284 l1 t318 0) = some true := by rw [if_neg (show ¬ (false = true) by decide)] at H; exact H
                      clear H
                      have H := H1
                      clear H1
                      have H' := Aside0.mk H
                      clear H
                      go_wp2
                      go_loopg [14] kj35 (fun kq v14 w' => ∃ (x14_4 : Int), v14 = .int .i64 x14_4 ∧ Aside0 (customslaw34_JournalScan.l1 kq t284 l1 t318 x14_4 = some true) ∧ Aside0 (kq ≤ kj35) ∧ Aside0 (Kd.N (Kd.slice 5 (Kd.int .u8)) 22 w' w.heap.size (fun k_ => ((P0_ k_ ∨ P2_ k_) ∨ w.heap.size ≤ k_) ∧ some k_ ≠ (v320 : Value).ownBlock) (.slice Ao29 t284.length co29) t284) ∧ Aside0 (Kd.N k43 43 w' w.heap.size (fun k_ => ((P0_ k_ ∨ P2_ k_) ∨ w.heap.size ≤ k_) ∧ some k_ ≠ ((.slice Ao29 t284.length co29) : Value).ownBlock) v320 t318) ∧ Aside0 (Below w.heap.size w w'))
                      case atStart => exact ⟨(0), (by first | rfl | (simp; done) | (simp [*]; done)), H', ⟨Nat.le_refl _⟩, ⟨by (with_reducible repeat (first | apply Kd.N_alloc | apply Kd.N_drewN | apply Kd.N_drew)); exact HO_0.out⟩, ⟨by (with_reducible repeat (first | apply Kd.N_alloc | apply Kd.N_drewN | apply Kd.N_drew)); exact HO_12.out⟩, ⟨by repeat (first | (with_reducible first | exact HB.out | apply below_alloc | apply pw_below_drewN | apply below_drew1) | exact HB.out)⟩⟩
                      case round =>
                        clear H'
                        try clear c1
                        try clear c2
                        try clear p2
                        try clear q2
                        try clear hx2
                        try clear c3
                        try clear q3
                        try clear c4
                        try clear c6
                        try clear c6b0
                        try clear p6
                        try clear c8
                        try clear c9
                        try clear c9b0
                        try clear c10
                        try clear c10b0
                        try clear c11
                        try clear c12
                        try clear c12b0
                        try clear c13
                        try clear c13b0
                        try clear c15
                        try clear c15b0
                        try clear c15b1
                        try clear c16
                        try clear c20
                        try clear c20b0
                        try clear c21
                        try clear c21b0
                        try clear c23
                        try clear c23b0
                        try clear c23b1
                        try clear c24
                        try clear c28
                        try clear p28
                        try clear q28
                        try clear hx28
                        try clear c29
                        try clear p29
                        try clear q29
                        try clear hx29
                        try clear c30
                        try clear c30b0
                        try clear c30b1
                        try clear c31
                        try clear c31b0
                        try clear c31b1
                        try clear q32
                        try clear c33
                        try clear c34
                        try clear c45
                        try clear c45b0
                        try clear c45b1
                        try clear c47
                        try clear hx287_0
                        try clear hx288_0
                        try clear hx296_0
                        try clear p2
                        try clear p28
                        try clear p287
                        try clear p288
                        try clear p29
                        try clear p296
                        try clear p6
                        try clear q2
                        try clear q28
                        try clear q287
                        try clear q288
                        try clear q29
                        try clear q296
                        try clear q3
                        try clear q32
                        obtain ⟨x14_4, rfl, HA, HK4, HO_0, HO_12, HB⟩ := hrel
                        cases gk with
                        | zero => exact absurd HA.out (by simp [customslaw34_JournalScan.l1])
                        | succ k4 =>
                          have H := HA.out
                          clear HA
                          simp only [customslaw34_JournalScan.l1] at H
                          by_cases c48 : x14_4 < (t284.length : Int)
                          · rw [if_pos c48] at H
                            have c48b0 : decide (x14_4 < (t284.length : Int)) = true := decide_eq_true c48
                            clear c48
                            by_cases c49 : 0 ≤ x14_4
                            · rw [if_pos c49] at H
                              have c49b0 : decide (0 ≤ x14_4) = true := decide_eq_true c49
                              clear c49
                              by_cases c50 : x14_4 < (t318.length : Int)
                              · rw [if_pos c50] at H
                                have c50b0 : decide (x14_4 < (t318.length : Int)) = true := decide_eq_true c50
                                clear c50
                                replace H := Option.bind_eq_some_iff.mp H
                                obtain ⟨t324, A510, H⟩ := H
                                replace H : (if t324 = true then (if x14_4 < (l1.length : Int) then (if ((((rd_T43 t318 x14_4).f0) == 2) != (rdOf false l1 x14_4)) = true then (some false) else (customslaw34_JournalScan.l1 k4 t284 l1 t318 (wrap64 (x14_4 + 1)))) else (if ((((rd_T43 t318 x14_4).f0) == 2) != false) = true then (some false) else (customslaw34_JournalScan.l1 k4 t284 l1 t318 (wrap64 (x14_4 + 1))))) else (some false)) = some true := H
                                have A51 := Aside0.mk A510
                                clear A510
                                by_cases c52 : t324 = true
                                · subst c52
                                  have H1 : (if x14_4 < (l1.length : Int) then (if ((((rd_T43 t318 x14_4).f0) == 2) != (rdOf false l1 x14_4)) = true then (some false) else (customslaw34_JournalScan.l1 k4 t284 l1 t318 (wrap64 (x14_4 + 1)))) else (if ((((rd_T43 t318 x14_4).f0) == 2) != false) = true then (some false) else (customslaw34_JournalScan.l1 k4 t284 l1 t318 (wrap64 (x14_4 + 1))))) = some true := by rw [if_pos rfl] at H; exact H
                                  clear H
                                  have H := H1
                                  clear H1
                                  by_cases c53 : x14_4 < (l1.length : Int)
                                  · rw [if_pos c53] at H
                                    have c53b0 : decide (x14_4 < (l1.length : Int)) = true := decide_eq_true c53
                                    clear c53
                                    by_cases c54 : ((((rd_T43 t318 x14_4).f0) == 2) != (rdOf false l1 x14_4)) = true
                                    · rw [if_pos c54] at H
                                      have c54b0 : ((((rd_T43 t318 x14_4).f0) == 2) != (rdOf false l1 x14_4)) = true := c54
                                      (try (have c54b1 : decide ((((rd_T43 t318 x14_4).f0) == 2) = (rdOf false l1 x14_4)) = false := by simpa using c54))
                                      (try (have c54b2 : ((((rd_T43 t318 x14_4).f0) == 2) == (rdOf false l1 x14_4)) = false := by simpa using c54))
                                      (try (have c54b3 : ¬ ((((rd_T43 t318 x14_4).f0) == 2) = (rdOf false l1 x14_4)) := by simpa using c54))
                                      clear c54
                                      exact absurd (Option.some.inj H) (by simp)
                                    · rw [if_neg c54] at H
                                      have c54b0 : ((((rd_T43 t318 x14_4).f0) == 2) != (rdOf false l1 x14_4)) = false := by simpa using c54
                                      (try (have c54b1 : decide ((((rd_T43 t318 x14_4).f0) == 2) = (rdOf false l1 x14_4)) = true := by simpa using c54))
                                      (try (have c54b2 : ((((rd_T43 t318 x14_4).f0) == 2) == (rdOf false l1 x14_4)) = true := by simpa using c54))
                                      clear c54
                                      have H' := Aside0.mk H
                                      clear H
                                      try go_wp2
                                      have n0_ := Aside0.mk (Kd.N_drew HO_0.out)
                                      have n1_ := Aside0.mk (Kd.N_drew HO_12.out)
                                      have n2_ := Aside0.mk (below_drew1 HB.out)
                                      clear HO_0
                                      clear HO_12
                                      clear HB
                                      have HO_0 := n0_
                                      have HO_12 := n1_
                                      have HB := n2_
                                      clear n0_ n1_ n2_
                                      obtain ⟨Ao56, co56, eo56⟩ := Kd.N_slice HO_12.out
                                      (first | subst eo56 | (injection eo56 with f1_ f2_ f3_; have f4_ := f1_.symm; have f5_ := f3_.symm; clear f1_ f2_ f3_; subst f4_; subst f5_))
                                      have p322 : 0 ≤ (x14_4 : Int) := of_decide_eq_true (by first | (with_reducible assumption) | assumption)
                                      have q322 : x14_4 < (t318.length : Int) := of_decide_eq_true (by first | (with_reducible assumption) | assumption)
                                      obtain ⟨ad322, A322_1, c322_1, e322, hx322_0, hx322_1, hl322_1, hi322_1⟩ := at_T43 (Kd.N_reads' HO_12.out).2.2 x14_4 p322 q322
                                      cases e322
                                      obtain ⟨ce322, hce322, hMe322, hcc322⟩ := Kd.N_get HO_12.out z43 x14_4 p322 (by first | exact q322 | exact of_decide_eq_true (by first | (with_reducible assumption) | assumption) | (have e_ := (Kd.N_reads' HO_12.out).1; omega))
                                      obtain ⟨ua322_1, uc322_1, rfl, ul322_1, ge322_1⟩ := k43_openF hMe322
                                      have hv322_1 := hcc322 1 _ rfl
                                      rw [add_field _ _ 1 (by omega)] at hv322_1
                                      replace hv322_1 := Option.some.inj (hv322_1.symm.trans hx322_1)
                                      injection hv322_1 with hva_ hvn_ hvc_
                                      rw [hva_] at ge322_1
                                      rw [hvc_] at ul322_1
                                      have HL322_1 := Aside0.mk (show Kd.V (Kd.int .u8) 5 _ w.heap.size _ _ ((rd_T43 t318 x14_4).f1) from Kd.V_mk ul322_1 ge322_1)
                                      clear hva_ hvn_ hvc_ ge322_1 ul322_1
                                      clear hcc322 hce322
                                      have HR322_1 := Aside0.mk hi322_1
                                      have HC322_1 := Aside0.mk hl322_1
                                      clear hi322_1 hl322_1
                                      replace p322 := eq_true p322
                                      replace q322 := eq_true q322
                                      have p323 : 0 ≤ (x14_4 : Int) := of_decide_eq_true (by first | (with_reducible assumption) | assumption)
                                      have q323 : x14_4 < (t284.length : Int) := of_decide_eq_true (by first | (with_reducible assumption) | assumption)
                                      obtain ⟨ad323, A323_0, c323_0, e323, hx323_0, hl323_0, hi323_0⟩ := at_L1 (Kd.N_reads' HO_0.out).2.2 x14_4 p323 q323
                                      cases e323
                                      obtain ⟨ce323, hce323, hMe323, hcc323⟩ := Kd.N_get HO_0.out [] x14_4 p323 (by first | exact q323 | exact of_decide_eq_true (by first | (with_reducible assumption) | assumption) | (have e_ := (Kd.N_reads' HO_0.out).1; omega))
                                      obtain ⟨ua323_0, uc323_0, rfl, ul323_0, ge323_0⟩ := Kd.FK_slice_open hMe323
                                      have hv323_0 := hcc323 0 _ rfl
                                      rw [Nat.add_zero, show ((Kd.slice 5 (Kd.int .u8))).sz = 1 from rfl, Nat.mul_one] at hv323_0
                                      replace hv323_0 := Option.some.inj (hv323_0.symm.trans hx323_0)
                                      injection hv323_0 with hva_ hvn_ hvc_
                                      rw [hva_] at ge323_0
                                      rw [hvc_] at ul323_0
                                      have HL323_0 := Aside0.mk (show Kd.V (Kd.int .u8) 5 _ w.heap.size _ _ (rd_L1 t284 x14_4) from Kd.V_mk ul323_0 ge323_0)
                                      clear hva_ hvn_ hvc_ ge323_0 ul323_0
                                      clear hcc323 hce323
                                      have HR323_0 := Aside0.mk hi323_0
                                      have HC323_0 := Aside0.mk hl323_0
                                      clear hi323_0 hl323_0
                                      replace p323 := eq_true p323
                                      replace q323 := eq_true q323
                                      have p325 : 0 ≤ (x14_4 : Int) := of_decide_eq_true (by first | (with_reducible assumption) | assumption)
                                      have q325 : x14_4 < (t318.length : Int) := of_decide_eq_true (by first | (with_reducible assumption) | assumption)
                                      obtain ⟨ad325, A325_1, c325_1, e325, hx325_0, hx325_1, hl325_1, hi325_1⟩ := at_T43 (Kd.N_reads' HO_12.out).2.2 x14_4 p325 q325
                                      obtain rfl : ad322 = ad325 := (by injection e325)
                                      obtain ⟨ce325, hce325, hMe325, hcc325⟩ := Kd.N_get HO_12.out z43 x14_4 p325 (by first | exact q325 | exact of_decide_eq_true (by first | (with_reducible assumption) | assumption) | (have e_ := (Kd.N_reads' HO_12.out).1; omega))
                                      obtain ⟨ua325_1, uc325_1, rfl, ul325_1, ge325_1⟩ := k43_openF hMe325
                                      have hv325_1 := hcc325 1 _ rfl
                                      rw [add_field _ _ 1 (by omega)] at hv325_1
                                      replace hv325_1 := Option.some.inj (hv325_1.symm.trans hx325_1)
                                      injection hv325_1 with hva_ hvn_ hvc_
                                      rw [hva_] at ge325_1
                                      rw [hvc_] at ul325_1
                                      have HL325_1 := Aside0.mk (show Kd.V (Kd.int .u8) 5 _ w.heap.size _ _ ((rd_T43 t318 x14_4).f1) from Kd.V_mk ul325_1 ge325_1)
                                      clear hva_ hvn_ hvc_ ge325_1 ul325_1
                                      clear hcc325 hce325
                                      have HR325_1 := Aside0.mk hi325_1
                                      have HC325_1 := Aside0.mk hl325_1
                                      clear hi325_1 hl325_1
                                      replace p325 := eq_true p325
                                      replace q325 := eq_true q325
                                      have ea_ := Option.some.inj (hx322_1.symm.trans hx325_1)
                                      injection ea_ with ea_ en_ ec_
                                      subst ea_
                                      subst ec_
                                      clear en_
                                      have p326 : 0 ≤ (x14_4 : Int) := of_decide_eq_true (by first | (with_reducible assumption) | assumption)
                                      have q326 : x14_4 < (l1.length : Int) := of_decide_eq_true (by first | (with_reducible assumption) | assumption)
                                      obtain ⟨ad326, e326, hx326_0⟩ := Kd.at_bool HR1.out x14_4 p326 q326
                                      have hw326_0 := hx326_0
                                      cases e326
                                      replace hx326_0 := (HB.out.cell (World.block_lt_of_cell? w _ hx326_0)).trans hx326_0
                                      replace p326 := eq_true p326
                                      replace q326 := eq_true q326
                                      refine start_ (n := 30) (S := fun w' => w'.cell? (ad322.add ((x14_4).toNat * 2)) = some (.int .i64 ((rd_T43 t318 x14_4).f0)) ∧ w'.cell? ⟨(ad322.add ((x14_4).toNat * 2)).block, (ad322.add ((x14_4).toNat * 2)).off + 1, none⟩ = some (.slice A322_1 ((rd_T43 t318 x14_4).f1).length c322_1) ∧ w'.cell? (ad323.add (x14_4).toNat) = some (.slice A323_0 (rd_L1 t284 x14_4).length c323_0) ∧ w'.cell? (ad322.add ((x14_4).toNat * 2)) = some (.int .i64 ((rd_T43 t318 x14_4).f0)) ∧ w'.cell? ⟨(ad322.add ((x14_4).toNat * 2)).block, (ad322.add ((x14_4).toNat * 2)).off + 1, none⟩ = some (.slice A322_1 ((rd_T43 t318 x14_4).f1).length c322_1) ∧ w'.cell? (ad326.add (x14_4).toNat) = some (.bool (rdOf false l1 x14_4))) (ds := []) #[false, false, false, false, false, false, false, false, false, false, false, false, false, false, false, false, false, false, false, false, false, false, false, false, false, false, false, false, false, false] (by kernel_rfl) rfl rfl ⟨hx322_0, hx322_1, hx323_0, hx325_0, hx325_1, ((HB.out.cell (World.block_lt_of_cell? w _ hw326_0)).trans hw326_0)⟩ (fun hHeld => ?_); refine with_tabW customslaw34_JournalScan.tab21 customslaw34_JournalScan.bits21 (fun HT_ HW_ => ?_)
                                      generalize wr.drew = w55 at HO_0 HO_12 HB HL322_1 HL323_0 HL325_1 HR322_1 HR323_0 HR325_1 hx322_0 hx322_1 hx323_0 hx325_0 hx325_1 hx326_0 hHeld ⊢
                                      refine pure_ (i := 0) (N := some 79) (v := ?_) (a' := ?_) #[true, false, false, false, false, false, false, false, false, false, false, false, false, false, false, false, false, false, false, false, false, false, false, false, false, false, false, false, false, false] rfl rfl (any_of HT_.out (by kernel_rfl)) (fun _ _ _ h => h) (Or.inl ⟨by rfl, ?_⟩) ?_ ?_
                                      rotate_left
                                      · intro w'
                                        go_simp
                                        with_reducible rfl
                                      rotate_left
                                      · simp only [Act.put, List.setIfInBounds_toArray, List.set_cons_zero, List.set_cons_succ, i64_w, i32_w]
                                        rfl
                                      refine pure_ (i := 1) (N := some 80) (v := ?_) (a' := ?_) #[true, true, false, false, false, false, false, false, false, false, false, false, false, false, false, false, false, false, false, false, false, false, false, false, false, false, false, false, false, false] rfl rfl (any_of HT_.out (by kernel_rfl)) (fun _ _ _ h => h) (Or.inl ⟨by rfl, ?_⟩) ?_ ?_
                                      rotate_left
                                      · intro w'
                                        go_simp
                                        with_reducible rfl
                                      rotate_left
                                      · simp only [Act.put, List.setIfInBounds_toArray, List.set_cons_zero, List.set_cons_succ, i64_w, i32_w]
                                        rfl
                                      refine pure_ (i := 2) (N := some 81) (v := ?_) (a' := ?_) #[true, true, true, false, false, false, false, false, false, false, false, false, false, false, false, false, false, false, false, false, false, false, false, false, false, false, false, false, false, false] rfl rfl (any_of HT_.out (by kernel_rfl)) (fun _ _ _ h => h) (Or.inl ⟨by rfl, ?_⟩) ?_ ?_
                                      rotate_left
                                      · intro w'
                                        go_simp
                                        with_reducible rfl
                                      rotate_left
                                      · simp only [Act.put, List.setIfInBounds_toArray, List.set_cons_zero, List.set_cons_succ, i64_w, i32_w]
                                        rfl
                                      refine pure_ (i := 3) (N := some 82) (v := ?_) (a' := ?_) #[true, true, true, true, false, false, false, false, false, false, false, false, false, false, false, false, false, false, false, false, false, false, false, false, false, false, false, false, false, false] rfl rfl (any_of HT_.out (by kernel_rfl)) (fun _ _ _ h => h) (Or.inl ⟨by rfl, ?_⟩) ?_ ?_
                                      rotate_left
                                      · intro w'
                                        go_simp
                                        with_reducible rfl
                                      rotate_left
                                      · simp only [Act.put, List.setIfInBounds_toArray, List.set_cons_zero, List.set_cons_succ, i64_w, i32_w]
                                        rfl
                                      refine pure_ (i := 5) (N := some 84) (v := ?_) (a' := ?_) #[true, true, true, true, false, true, false, false, false, false, false, false, false, false, false, false, false, false, false, false, false, false, false, false, false, false, false, false, false, false] rfl rfl (any_of HT_.out (by kernel_rfl)) (fun _ _ _ h => h) (Or.inl ⟨by rfl, ?_⟩) ?_ ?_
                                      rotate_left
                                      · intro w'
                                        go_simp
                                        with_reducible rfl
                                      rotate_left
                                      · simp only [Act.put, List.setIfInBounds_toArray, List.set_cons_zero, List.set_cons_succ, i64_w, i32_w]
                                        rfl
                                      refine pure_ (i := 6) (N := some 85) (v := ?_) (a' := ?_) #[true, true, true, true, false, true, true, false, false, false, false, false, false, false, false, false, false, false, false, false, false, false, false, false, false, false, false, false, false, false] rfl rfl (any_of HT_.out (by kernel_rfl)) (fun _ _ _ h => h) (Or.inl ⟨by rfl, ?_⟩) ?_ ?_
                                      rotate_left
                                      · intro w'
                                        go_simp
                                        with_reducible rfl
                                      rotate_left
                                      · simp only [Act.put, List.setIfInBounds_toArray, List.set_cons_zero, List.set_cons_succ, i64_w, i32_w]
                                        rfl
                                      refine pure_ (i := 7) (N := some 86) (v := ?_) (a' := ?_) #[true, true, true, true, false, true, true, true, false, false, false, false, false, false, false, false, false, false, false, false, false, false, false, false, false, false, false, false, false, false] rfl rfl (any_of HT_.out (by kernel_rfl)) (fun _ _ _ h => h) (Or.inl ⟨by rfl, ?_⟩) ?_ ?_
                                      rotate_left
                                      · intro w'
                                        go_simp
                                        with_reducible rfl
                                      rotate_left
                                      · simp only [Act.put, List.setIfInBounds_toArray, List.set_cons_zero, List.set_cons_succ, i64_w, i32_w]
                                        rfl
                                      refine take_ (i := 4) (N := some 83) (v := ?_) (a' := ?_) #[true, true, true, true, true, true, true, true, false, false, false, false, false, false, false, false, false, false, false, false, false, false, false, false, false, false, false, false, false, false] rfl rfl (take_ofW HT_.out HW_.out (by kernel_rfl)) (fun _ _ _ h => h) (Or.inl ⟨by rfl, ?_⟩) hHeld ?_ ?_
                                      rotate_left
                                      · rintro w' ⟨s0, s1, s2, s3, s4, s5⟩
                                        go_simp
                                        with_reducible rfl
                                      rotate_left
                                      · simp only [Act.put, List.setIfInBounds_toArray, List.set_cons_zero, List.set_cons_succ, i64_w, i32_w]
                                        rfl
                                      refine take_ (i := 8) (N := some 87) (v := ?_) (a' := ?_) #[true, true, true, true, true, true, true, true, true, false, false, false, false, false, false, false, false, false, false, false, false, false, false, false, false, false, false, false, false, false] rfl rfl (take_ofW HT_.out HW_.out (by kernel_rfl)) (fun _ _ _ h => h) (Or.inl ⟨by rfl, ?_⟩) hHeld ?_ ?_
                                      rotate_left
                                      · rintro w' ⟨s0, s1, s2, s3, s4, s5⟩
                                        go_simp
                                        with_reducible rfl
                                      rotate_left
                                      · simp only [Act.put, List.setIfInBounds_toArray, List.set_cons_zero, List.set_cons_succ, i64_w, i32_w]
                                        rfl
                                      refine one_ (i := 9) (N := some 88) #[true, true, true, true, true, true, true, true, true, true, false, false, false, false, false, false, false, false, false, false, false, false, false, false, false, false, false, false, false, false] rfl rfl (one_of HT_.out (by kernel_rfl)) (by decide) (fun K hK => ?_)
                                      refine goes_ Try.func17 (by kernel_rfl) rfl #[.slice A322_1 ((rd_T43 t318 x14_4).f1).length c322_1, .slice A323_0 (rd_L1 t284 x14_4).length c323_0] (by rfl) rfl rfl (by (try simp only [List.map_toArray, List.map_cons, List.map_nil]); first | done | rfl | (simp only [List.length_drop, List.length_take]; rfl)) ?_
                                      with_reducible refine (customsref33_SameBytes.calls _ _ ((rd_T43 t318 x14_4).f1) _ _ (rd_L1 t284 x14_4) true _ ?side1 ?side2 ?side3 ?side4 A51.out).mono ?_
                                      (case side1 => repeat (first | exact (by repeat (first | (with_reducible exact HR322_1.out) | (with_reducible refine Kd.C_alloc ?_ _) | (with_reducible refine Kd.C_drewN ?_ _) | (with_reducible refine Kd.C_drew ?_) | exact HR322_1.out)) | (with_reducible refine Kd.C_alloc ?_ _) | (with_reducible refine Kd.C_drewN ?_ _) | (with_reducible refine Kd.C_drew ?_)))
                                      (case side2 => exact HC322_1.out)
                                      (case side3 => repeat (first | exact (by repeat (first | (with_reducible exact HR323_0.out) | (with_reducible refine Kd.C_alloc ?_ _) | (with_reducible refine Kd.C_drewN ?_ _) | (with_reducible refine Kd.C_drew ?_) | exact HR323_0.out)) | (with_reducible refine Kd.C_alloc ?_ _) | (with_reducible refine Kd.C_drewN ?_ _) | (with_reducible refine Kd.C_drew ?_)))
                                      (case side4 => exact HC323_0.out)
                                      rintro e w' ⟨rfl, ⟨nd, rfl⟩⟩
                                      refine ⟨_, rfl, ?_⟩
                                      refine hK.out _ _ ⟨hHeld.1, hHeld.2.1, hHeld.2.2.1, hHeld.2.2.2.1, hHeld.2.2.2.2.1, ((HB.out.cell (World.block_lt_of_cell? w _ hw326_0)).trans hw326_0)⟩ (fun hHeld => ?_)
                                      clear hK K
                                      refine norm_ (a' := ?_) ?_ ?_
                                      rotate_left
                                      · show Act.put _ (some 88) _ = _
                                        simp only [Act.put, List.setIfInBounds_toArray, List.set_cons_zero, List.set_cons_succ, i64_w, i32_w]
                                        rfl
                                      refine pure_ (i := 10) (N := some 89) (v := ?_) (a' := ?_) #[true, true, true, true, true, true, true, true, true, true, true, false, false, false, false, false, false, false, false, false, false, false, false, false, false, false, false, false, false, false] rfl rfl (any_of HT_.out (by kernel_rfl)) (fun _ _ _ h => h) (Or.inl ⟨by rfl, ?_⟩) ?_ ?_
                                      rotate_left
                                      · intro w'
                                        go_simp
                                        with_reducible rfl
                                      rotate_left
                                      · simp only [Act.put, List.setIfInBounds_toArray, List.set_cons_zero, List.set_cons_succ, i64_w, i32_w]
                                        rfl
                                      refine pure_ (i := 11) (N := some 90) (v := ?_) (a' := ?_) #[true, true, true, true, true, true, true, true, true, true, true, true, false, false, false, false, false, false, false, false, false, false, false, false, false, false, false, false, false, false] rfl rfl (any_of HT_.out (by kernel_rfl)) (fun _ _ _ h => h) (Or.inl ⟨by rfl, ?_⟩) ?_ ?_
                                      rotate_left
                                      · intro w'
                                        go_simp
                                        with_reducible rfl
                                      rotate_left
                                      · simp only [Act.put, List.setIfInBounds_toArray, List.set_cons_zero, List.set_cons_succ, i64_w, i32_w]
                                        rfl
                                      refine pure_ (i := 12) (N := some 91) (v := ?_) (a' := ?_) #[true, true, true, true, true, true, true, true, true, true, true, true, true, false, false, false, false, false, false, false, false, false, false, false, false, false, false, false, false, false] rfl rfl (any_of HT_.out (by kernel_rfl)) (fun _ _ _ h => h) (Or.inl ⟨by rfl, ?_⟩) ?_ ?_
                                      rotate_left
                                      · intro w'
                                        go_simp
                                        with_reducible rfl
                                      rotate_left
                                      · simp only [Act.put, List.setIfInBounds_toArray, List.set_cons_zero, List.set_cons_succ, i64_w, i32_w]
                                        rfl
                                      refine pure_ (i := 13) (N := some 92) (v := ?_) (a' := ?_) #[true, true, true, true, true, true, true, true, true, true, true, true, true, true, false, false, false, false, false, false, false, false, false, false, false, false, false, false, false, false] rfl rfl (any_of HT_.out (by kernel_rfl)) (fun _ _ _ h => h) (Or.inl ⟨by rfl, ?_⟩) ?_ ?_
                                      rotate_left
                                      · intro w'
                                        go_simp
                                        with_reducible rfl
                                      rotate_left
                                      · simp only [Act.put, List.setIfInBounds_toArray, List.set_cons_zero, List.set_cons_succ, i64_w, i32_w]
                                        rfl
                                      refine pure_ (i := 14) (N := some 93) (v := ?_) (a' := ?_) #[true, true, true, true, true, true, true, true, true, true, true, true, true, true, true, false, false, false, false, false, false, false, false, false, false, false, false, false, false, false] rfl rfl (any_of HT_.out (by kernel_rfl)) (fun _ _ _ h => h) (Or.inl ⟨by rfl, ?_⟩) ?_ ?_
                                      rotate_left
                                      · intro w'
                                        go_simp
                                        with_reducible rfl
                                      rotate_left
                                      · simp only [Act.put, List.setIfInBounds_toArray, List.set_cons_zero, List.set_cons_succ, i64_w, i32_w]
                                        rfl
                                      refine pure_ (i := 15) (N := some 94) (v := ?_) (a' := ?_) #[true, true, true, true, true, true, true, true, true, true, true, true, true, true, true, true, false, false, false, false, false, false, false, false, false, false, false, false, false, false] rfl rfl (any_of HT_.out (by kernel_rfl)) (fun _ _ _ h => h) (Or.inl ⟨by rfl, ?_⟩) ?_ ?_
                                      rotate_left
                                      · intro w'
                                        go_simp
                                        with_reducible rfl
                                      rotate_left
                                      · simp only [Act.put, List.setIfInBounds_toArray, List.set_cons_zero, List.set_cons_succ, i64_w, i32_w]
                                        rfl
                                      refine pure_ (i := 18) (N := some 97) (v := ?_) (a' := ?_) #[true, true, true, true, true, true, true, true, true, true, true, true, true, true, true, true, false, false, true, false, false, false, false, false, false, false, false, false, false, false] rfl rfl (any_of HT_.out (by kernel_rfl)) (fun _ _ _ h => h) (Or.inl ⟨by rfl, ?_⟩) ?_ ?_
                                      rotate_left
                                      · intro w'
                                        go_simp
                                        with_reducible rfl
                                      rotate_left
                                      · simp only [Act.put, List.setIfInBounds_toArray, List.set_cons_zero, List.set_cons_succ, i64_w, i32_w]
                                        rfl
                                      refine pure_ (i := 19) (N := some 98) (v := ?_) (a' := ?_) #[true, true, true, true, true, true, true, true, true, true, true, true, true, true, true, true, false, false, true, true, false, false, false, false, false, false, false, false, false, false] rfl rfl (any_of HT_.out (by kernel_rfl)) (fun _ _ _ h => h) (Or.inl ⟨by rfl, ?_⟩) ?_ ?_
                                      rotate_left
                                      · intro w'
                                        go_simp
                                        with_reducible rfl
                                      rotate_left
                                      · simp only [Act.put, List.setIfInBounds_toArray, List.set_cons_zero, List.set_cons_succ, i64_w, i32_w]
                                        rfl
                                      refine pure_ (i := 20) (N := some 99) (v := ?_) (a' := ?_) #[true, true, true, true, true, true, true, true, true, true, true, true, true, true, true, true, false, false, true, true, true, false, false, false, false, false, false, false, false, false] rfl rfl (any_of HT_.out (by kernel_rfl)) (fun _ _ _ h => h) (Or.inl ⟨by rfl, ?_⟩) ?_ ?_
                                      rotate_left
                                      · intro w'
                                        go_simp
                                        with_reducible rfl
                                      rotate_left
                                      · simp only [Act.put, List.setIfInBounds_toArray, List.set_cons_zero, List.set_cons_succ, i64_w, i32_w]
                                        rfl
                                      refine pure_ (i := 21) (N := some 100) (v := ?_) (a' := ?_) #[true, true, true, true, true, true, true, true, true, true, true, true, true, true, true, true, false, false, true, true, true, true, false, false, false, false, false, false, false, false] rfl rfl (any_of HT_.out (by kernel_rfl)) (fun _ _ _ h => h) (Or.inl ⟨by rfl, ?_⟩) ?_ ?_
                                      rotate_left
                                      · intro w'
                                        go_simp
                                        with_reducible rfl
                                      rotate_left
                                      · simp only [Act.put, List.setIfInBounds_toArray, List.set_cons_zero, List.set_cons_succ, i64_w, i32_w]
                                        rfl
                                      refine pure_ (i := 22) (N := some 101) (v := ?_) (a' := ?_) #[true, true, true, true, true, true, true, true, true, true, true, true, true, true, true, true, false, false, true, true, true, true, true, false, false, false, false, false, false, false] rfl rfl (any_of HT_.out (by kernel_rfl)) (fun _ _ _ h => h) (Or.inl ⟨by rfl, ?_⟩) ?_ ?_
                                      rotate_left
                                      · intro w'
                                        go_simp
                                        with_reducible rfl
                                      rotate_left
                                      · simp only [Act.put, List.setIfInBounds_toArray, List.set_cons_zero, List.set_cons_succ, i64_w, i32_w]
                                        rfl
                                      refine pure_ (i := 23) (N := some 102) (v := ?_) (a' := ?_) #[true, true, true, true, true, true, true, true, true, true, true, true, true, true, true, true, false, false, true, true, true, true, true, true, false, false, false, false, false, false] rfl rfl (any_of HT_.out (by kernel_rfl)) (fun _ _ _ h => h) (Or.inl ⟨by rfl, ?_⟩) ?_ ?_
                                      rotate_left
                                      · intro w'
                                        go_simp
                                        with_reducible rfl
                                      rotate_left
                                      · simp only [Act.put, List.setIfInBounds_toArray, List.set_cons_zero, List.set_cons_succ, i64_w, i32_w]
                                        rfl
                                      refine pure_ (i := 24) (N := some 103) (v := ?_) (a' := ?_) #[true, true, true, true, true, true, true, true, true, true, true, true, true, true, true, true, false, false, true, true, true, true, true, true, true, false, false, false, false, false] rfl rfl (any_of HT_.out (by kernel_rfl)) (fun _ _ _ h => h) (Or.inl ⟨by rfl, ?_⟩) ?_ ?_
                                      rotate_left
                                      · intro w'
                                        go_simp
                                        with_reducible rfl
                                      rotate_left
                                      · simp only [Act.put, List.setIfInBounds_toArray, List.set_cons_zero, List.set_cons_succ, i64_w, i32_w]
                                        rfl
                                      refine pure_ (i := 25) (N := some 104) (v := ?_) (a' := ?_) #[true, true, true, true, true, true, true, true, true, true, true, true, true, true, true, true, false, false, true, true, true, true, true, true, true, true, false, false, false, false] rfl rfl (any_of HT_.out (by kernel_rfl)) (fun _ _ _ h => h) (Or.inl ⟨by rfl, ?_⟩) ?_ ?_
                                      rotate_left
                                      · intro w'
                                        go_simp
                                        with_reducible rfl
                                      rotate_left
                                      · simp only [Act.put, List.setIfInBounds_toArray, List.set_cons_zero, List.set_cons_succ, i64_w, i32_w]
                                        rfl
                                      refine take_ (i := 16) (N := some 95) (v := ?_) (a' := ?_) #[true, true, true, true, true, true, true, true, true, true, true, true, true, true, true, true, true, false, true, true, true, true, true, true, true, true, false, false, false, false] rfl rfl (take_ofW HT_.out HW_.out (by kernel_rfl)) (fun _ _ _ h => h) (Or.inl ⟨by rfl, ?_⟩) hHeld ?_ ?_
                                      rotate_left
                                      · rintro w' ⟨s0, s1, s2, s3, s4, s5⟩
                                        go_simp
                                        with_reducible rfl
                                      rotate_left
                                      · simp only [Act.put, List.setIfInBounds_toArray, List.set_cons_zero, List.set_cons_succ, i64_w, i32_w]
                                        rfl
                                      refine pure_ (i := 17) (N := some 96) (v := ?_) (a' := ?_) #[true, true, true, true, true, true, true, true, true, true, true, true, true, true, true, true, true, true, true, true, true, true, true, true, true, true, false, false, false, false] rfl rfl (any_of HT_.out (by kernel_rfl)) (fun _ _ _ h => h) (Or.inl ⟨by rfl, ?_⟩) ?_ ?_
                                      rotate_left
                                      · intro w'
                                        go_simp
                                        with_reducible rfl
                                      rotate_left
                                      · simp only [Act.put, List.setIfInBounds_toArray, List.set_cons_zero, List.set_cons_succ, i64_w, i32_w]
                                        rfl
                                      refine take_ (i := 26) (N := some 105) (v := ?_) (a' := ?_) #[true, true, true, true, true, true, true, true, true, true, true, true, true, true, true, true, true, true, true, true, true, true, true, true, true, true, true, false, false, false] rfl rfl (take_ofW HT_.out HW_.out (by kernel_rfl)) (fun _ _ _ h => h) (Or.inl ⟨by rfl, ?_⟩) hHeld ?_ ?_
                                      rotate_left
                                      · rintro w' ⟨s0, s1, s2, s3, s4, s5⟩
                                        go_simp
                                        with_reducible rfl
                                      rotate_left
                                      · simp only [Act.put, List.setIfInBounds_toArray, List.set_cons_zero, List.set_cons_succ, i64_w, i32_w]
                                        rfl
                                      refine pure_ (i := 27) (N := some 106) (v := ?_) (a' := ?_) #[true, true, true, true, true, true, true, true, true, true, true, true, true, true, true, true, true, true, true, true, true, true, true, true, true, true, true, true, false, false] rfl rfl (any_of HT_.out (by kernel_rfl)) (fun _ _ _ h => h) (Or.inl ⟨by rfl, ?_⟩) ?_ ?_
                                      rotate_left
                                      · intro w'
                                        go_simp
                                        with_reducible rfl
                                      rotate_left
                                      · simp only [Act.put, List.setIfInBounds_toArray, List.set_cons_zero, List.set_cons_succ, i64_w, i32_w]
                                        rfl
                                      refine pure_ (i := 28) (N := some 107) (v := ?_) (a' := ?_) #[true, true, true, true, true, true, true, true, true, true, true, true, true, true, true, true, true, true, true, true, true, true, true, true, true, true, true, true, true, false] rfl rfl (any_of HT_.out (by kernel_rfl)) (fun _ _ _ h => h) (Or.inl ⟨by rfl, ?_⟩) ?_ ?_
                                      rotate_left
                                      · intro w'
                                        go_simp
                                        with_reducible rfl
                                      rotate_left
                                      · simp only [Act.put, List.setIfInBounds_toArray, List.set_cons_zero, List.set_cons_succ, i64_w, i32_w]
                                        rfl
                                      refine pure_ (i := 29) (N := some 108) (v := ?_) (a' := ?_) #[true, true, true, true, true, true, true, true, true, true, true, true, true, true, true, true, true, true, true, true, true, true, true, true, true, true, true, true, true, true] rfl rfl (any_of HT_.out (by kernel_rfl)) (fun _ _ _ h => h) (Or.inl ⟨by rfl, ?_⟩) ?_ ?_
                                      rotate_left
                                      · intro w'
                                        go_simp
                                        with_reducible rfl
                                      rotate_left
                                      · simp only [Act.put, List.setIfInBounds_toArray, List.set_cons_zero, List.set_cons_succ, i64_w, i32_w]
                                        rfl
                                      refine done_ (done_of HT_.out (by kernel_rfl)) ?_
                                      try go_wp2
                                      go_roundg k4
                                      case measure => have := HK1.out; have := HJ27.out; have := HJ35.out; have := HK4.out; omega
                                      case rel => exact ⟨(wrap64 (x14_4 + 1)), (by first | rfl | (simp; done) | (simp [*]; done)), H', ⟨by have := HK1.out; have := HJ27.out; have := HJ35.out; have := HK4.out; omega⟩, ⟨by (with_reducible repeat (first | apply Kd.N_alloc | apply Kd.N_drewN | apply Kd.N_drew)); exact HO_0.out⟩, ⟨by (with_reducible repeat (first | apply Kd.N_alloc | apply Kd.N_drewN | apply Kd.N_drew)); exact HO_12.out⟩, ⟨by repeat (first | (with_reducible first | exact HB.out | apply below_alloc | apply pw_below_drewN | apply below_drew1) | exact HB.out)⟩⟩
                                  · rw [if_neg c53] at H
                                    have c53b0 : decide (x14_4 < (l1.length : Int)) = false := decide_eq_false c53
                                    clear c53
                                    by_cases c57 : ((((rd_T43 t318 x14_4).f0) == 2) != false) = true
                                    · rw [if_pos c57] at H
                                      have c57b0 : ((((rd_T43 t318 x14_4).f0) == 2) != false) = true := c57
                                      (try (have c57b1 : decide ((((rd_T43 t318 x14_4).f0) == 2) = false) = false := by simpa using c57))
                                      (try (have c57b2 : ((((rd_T43 t318 x14_4).f0) == 2) == false) = false := by simpa using c57))
                                      (try (have c57b3 : ¬ ((((rd_T43 t318 x14_4).f0) == 2) = false) := by simpa using c57))
                                      clear c57
                                      exact absurd (Option.some.inj H) (by simp)
                                    · rw [if_neg c57] at H
                                      have c57b0 : ((((rd_T43 t318 x14_4).f0) == 2) != false) = false := by simpa using c57
                                      (try (have c57b1 : decide ((((rd_T43 t318 x14_4).f0) == 2) = false) = true := by simpa using c57))
                                      (try (have c57b2 : ((((rd_T43 t318 x14_4).f0) == 2) == false) = true := by simpa using c57))
                                      clear c57
                                      have H' := Aside0.mk H
                                      clear H
                                      try go_wp2
                                      have n0_ := Aside0.mk (Kd.N_drew HO_0.out)
                                      have n1_ := Aside0.mk (Kd.N_drew HO_12.out)
                                      have n2_ := Aside0.mk (below_drew1 HB.out)
                                      clear HO_0
                                      clear HO_12
                                      clear HB
                                      have HO_0 := n0_
                                      have HO_12 := n1_
                                      have HB := n2_
                                      clear n0_ n1_ n2_
                                      obtain ⟨Ao59, co59, eo59⟩ := Kd.N_slice HO_12.out
                                      (first | subst eo59 | (injection eo59 with f1_ f2_ f3_; have f4_ := f1_.symm; have f5_ := f3_.symm; clear f1_ f2_ f3_; subst f4_; subst f5_))
                                      have p322 : 0 ≤ (x14_4 : Int) := of_decide_eq_true (by first | (with_reducible assumption) | assumption)
                                      have q322 : x14_4 < (t318.length : Int) := of_decide_eq_true (by first | (with_reducible assumption) | assumption)
                                      obtain ⟨ad322, A322_1, c322_1, e322, hx322_0, hx322_1, hl322_1, hi322_1⟩ := at_T43 (Kd.N_reads' HO_12.out).2.2 x14_4 p322 q322
                                      cases e322
                                      obtain ⟨ce322, hce322, hMe322, hcc322⟩ := Kd.N_get HO_12.out z43 x14_4 p322 (by first | exact q322 | exact of_decide_eq_true (by first | (with_reducible assumption) | assumption) | (have e_ := (Kd.N_reads' HO_12.out).1; omega))
                                      obtain ⟨ua322_1, uc322_1, rfl, ul322_1, ge322_1⟩ := k43_openF hMe322
                                      have hv322_1 := hcc322 1 _ rfl
                                      rw [add_field _ _ 1 (by omega)] at hv322_1
                                      replace hv322_1 := Option.some.inj (hv322_1.symm.trans hx322_1)
                                      injection hv322_1 with hva_ hvn_ hvc_
                                      rw [hva_] at ge322_1
                                      rw [hvc_] at ul322_1
                                      have HL322_1 := Aside0.mk (show Kd.V (Kd.int .u8) 5 _ w.heap.size _ _ ((rd_T43 t318 x14_4).f1) from Kd.V_mk ul322_1 ge322_1)
                                      clear hva_ hvn_ hvc_ ge322_1 ul322_1
                                      clear hcc322 hce322
                                      have HR322_1 := Aside0.mk hi322_1
                                      have HC322_1 := Aside0.mk hl322_1
                                      clear hi322_1 hl322_1
                                      replace p322 := eq_true p322
                                      replace q322 := eq_true q322
                                      have p323 : 0 ≤ (x14_4 : Int) := of_decide_eq_true (by first | (with_reducible assumption) | assumption)
                                      have q323 : x14_4 < (t284.length : Int) := of_decide_eq_true (by first | (with_reducible assumption) | assumption)
                                      obtain ⟨ad323, A323_0, c323_0, e323, hx323_0, hl323_0, hi323_0⟩ := at_L1 (Kd.N_reads' HO_0.out).2.2 x14_4 p323 q323
                                      cases e323
                                      obtain ⟨ce323, hce323, hMe323, hcc323⟩ := Kd.N_get HO_0.out [] x14_4 p323 (by first | exact q323 | exact of_decide_eq_true (by first | (with_reducible assumption) | assumption) | (have e_ := (Kd.N_reads' HO_0.out).1; omega))
                                      obtain ⟨ua323_0, uc323_0, rfl, ul323_0, ge323_0⟩ := Kd.FK_slice_open hMe323
                                      have hv323_0 := hcc323 0 _ rfl
                                      rw [Nat.add_zero, show ((Kd.slice 5 (Kd.int .u8))).sz = 1 from rfl, Nat.mul_one] at hv323_0
                                      replace hv323_0 := Option.some.inj (hv323_0.symm.trans hx323_0)
                                      injection hv323_0 with hva_ hvn_ hvc_
                                      rw [hva_] at ge323_0
                                      rw [hvc_] at ul323_0
                                      have HL323_0 := Aside0.mk (show Kd.V (Kd.int .u8) 5 _ w.heap.size _ _ (rd_L1 t284 x14_4) from Kd.V_mk ul323_0 ge323_0)
                                      clear hva_ hvn_ hvc_ ge323_0 ul323_0
                                      clear hcc323 hce323
                                      have HR323_0 := Aside0.mk hi323_0
                                      have HC323_0 := Aside0.mk hl323_0
                                      clear hi323_0 hl323_0
                                      replace p323 := eq_true p323
                                      replace q323 := eq_true q323
                                      have p325 : 0 ≤ (x14_4 : Int) := of_decide_eq_true (by first | (with_reducible assumption) | assumption)
                                      have q325 : x14_4 < (t318.length : Int) := of_decide_eq_true (by first | (with_reducible assumption) | assumption)
                                      obtain ⟨ad325, A325_1, c325_1, e325, hx325_0, hx325_1, hl325_1, hi325_1⟩ := at_T43 (Kd.N_reads' HO_12.out).2.2 x14_4 p325 q325
                                      obtain rfl : ad322 = ad325 := (by injection e325)
                                      obtain ⟨ce325, hce325, hMe325, hcc325⟩ := Kd.N_get HO_12.out z43 x14_4 p325 (by first | exact q325 | exact of_decide_eq_true (by first | (with_reducible assumption) | assumption) | (have e_ := (Kd.N_reads' HO_12.out).1; omega))
                                      obtain ⟨ua325_1, uc325_1, rfl, ul325_1, ge325_1⟩ := k43_openF hMe325
                                      have hv325_1 := hcc325 1 _ rfl
                                      rw [add_field _ _ 1 (by omega)] at hv325_1
                                      replace hv325_1 := Option.some.inj (hv325_1.symm.trans hx325_1)
                                      injection hv325_1 with hva_ hvn_ hvc_
                                      rw [hva_] at ge325_1
                                      rw [hvc_] at ul325_1
                                      have HL325_1 := Aside0.mk (show Kd.V (Kd.int .u8) 5 _ w.heap.size _ _ ((rd_T43 t318 x14_4).f1) from Kd.V_mk ul325_1 ge325_1)
                                      clear hva_ hvn_ hvc_ ge325_1 ul325_1
                                      clear hcc325 hce325
                                      have HR325_1 := Aside0.mk hi325_1
                                      have HC325_1 := Aside0.mk hl325_1
                                      clear hi325_1 hl325_1
                                      replace p325 := eq_true p325
                                      replace q325 := eq_true q325
                                      have ea_ := Option.some.inj (hx322_1.symm.trans hx325_1)
                                      injection ea_ with ea_ en_ ec_
                                      subst ea_
                                      subst ec_
                                      clear en_
                                      refine start_ (n := 30) (S := fun w' => w'.cell? (ad322.add ((x14_4).toNat * 2)) = some (.int .i64 ((rd_T43 t318 x14_4).f0)) ∧ w'.cell? ⟨(ad322.add ((x14_4).toNat * 2)).block, (ad322.add ((x14_4).toNat * 2)).off + 1, none⟩ = some (.slice A322_1 ((rd_T43 t318 x14_4).f1).length c322_1) ∧ w'.cell? (ad323.add (x14_4).toNat) = some (.slice A323_0 (rd_L1 t284 x14_4).length c323_0) ∧ w'.cell? (ad322.add ((x14_4).toNat * 2)) = some (.int .i64 ((rd_T43 t318 x14_4).f0)) ∧ w'.cell? ⟨(ad322.add ((x14_4).toNat * 2)).block, (ad322.add ((x14_4).toNat * 2)).off + 1, none⟩ = some (.slice A322_1 ((rd_T43 t318 x14_4).f1).length c322_1)) (ds := []) #[false, false, false, false, false, false, false, false, false, false, false, false, false, false, false, false, false, false, false, false, false, false, false, false, false, false, false, false, false, false] (by kernel_rfl) rfl rfl ⟨hx322_0, hx322_1, hx323_0, hx325_0, hx325_1⟩ (fun hHeld => ?_); refine with_tabW customslaw34_JournalScan.tab21 customslaw34_JournalScan.bits21 (fun HT_ HW_ => ?_)
                                      generalize wr.drew = w58 at HO_0 HO_12 HB HL322_1 HL323_0 HL325_1 HR322_1 HR323_0 HR325_1 hx322_0 hx322_1 hx323_0 hx325_0 hx325_1 hHeld ⊢
                                      refine pure_ (i := 0) (N := some 79) (v := ?_) (a' := ?_) #[true, false, false, false, false, false, false, false, false, false, false, false, false, false, false, false, false, false, false, false, false, false, false, false, false, false, false, false, false, false] rfl rfl (any_of HT_.out (by kernel_rfl)) (fun _ _ _ h => h) (Or.inl ⟨by rfl, ?_⟩) ?_ ?_
                                      rotate_left
                                      · intro w'
                                        go_simp
                                        with_reducible rfl
                                      rotate_left
                                      · simp only [Act.put, List.setIfInBounds_toArray, List.set_cons_zero, List.set_cons_succ, i64_w, i32_w]
                                        rfl
                                      refine pure_ (i := 1) (N := some 80) (v := ?_) (a' := ?_) #[true, true, false, false, false, false, false, false, false, false, false, false, false, false, false, false, false, false, false, false, false, false, false, false, false, false, false, false, false, false] rfl rfl (any_of HT_.out (by kernel_rfl)) (fun _ _ _ h => h) (Or.inl ⟨by rfl, ?_⟩) ?_ ?_
                                      rotate_left
                                      · intro w'
                                        go_simp
                                        with_reducible rfl
                                      rotate_left
                                      · simp only [Act.put, List.setIfInBounds_toArray, List.set_cons_zero, List.set_cons_succ, i64_w, i32_w]
                                        rfl
                                      refine pure_ (i := 2) (N := some 81) (v := ?_) (a' := ?_) #[true, true, true, false, false, false, false, false, false, false, false, false, false, false, false, false, false, false, false, false, false, false, false, false, false, false, false, false, false, false] rfl rfl (any_of HT_.out (by kernel_rfl)) (fun _ _ _ h => h) (Or.inl ⟨by rfl, ?_⟩) ?_ ?_
                                      rotate_left
                                      · intro w'
                                        go_simp
                                        with_reducible rfl
                                      rotate_left
                                      · simp only [Act.put, List.setIfInBounds_toArray, List.set_cons_zero, List.set_cons_succ, i64_w, i32_w]
                                        rfl
                                      refine pure_ (i := 3) (N := some 82) (v := ?_) (a' := ?_) #[true, true, true, true, false, false, false, false, false, false, false, false, false, false, false, false, false, false, false, false, false, false, false, false, false, false, false, false, false, false] rfl rfl (any_of HT_.out (by kernel_rfl)) (fun _ _ _ h => h) (Or.inl ⟨by rfl, ?_⟩) ?_ ?_
                                      rotate_left
                                      · intro w'
                                        go_simp
                                        with_reducible rfl
                                      rotate_left
                                      · simp only [Act.put, List.setIfInBounds_toArray, List.set_cons_zero, List.set_cons_succ, i64_w, i32_w]
                                        rfl
                                      refine pure_ (i := 5) (N := some 84) (v := ?_) (a' := ?_) #[true, true, true, true, false, true, false, false, false, false, false, false, false, false, false, false, false, false, false, false, false, false, false, false, false, false, false, false, false, false] rfl rfl (any_of HT_.out (by kernel_rfl)) (fun _ _ _ h => h) (Or.inl ⟨by rfl, ?_⟩) ?_ ?_
                                      rotate_left
                                      · intro w'
                                        go_simp
                                        with_reducible rfl
                                      rotate_left
                                      · simp only [Act.put, List.setIfInBounds_toArray, List.set_cons_zero, List.set_cons_succ, i64_w, i32_w]
                                        rfl
                                      refine pure_ (i := 6) (N := some 85) (v := ?_) (a' := ?_) #[true, true, true, true, false, true, true, false, false, false, false, false, false, false, false, false, false, false, false, false, false, false, false, false, false, false, false, false, false, false] rfl rfl (any_of HT_.out (by kernel_rfl)) (fun _ _ _ h => h) (Or.inl ⟨by rfl, ?_⟩) ?_ ?_
                                      rotate_left
                                      · intro w'
                                        go_simp
                                        with_reducible rfl
                                      rotate_left
                                      · simp only [Act.put, List.setIfInBounds_toArray, List.set_cons_zero, List.set_cons_succ, i64_w, i32_w]
                                        rfl
                                      refine pure_ (i := 7) (N := some 86) (v := ?_) (a' := ?_) #[true, true, true, true, false, true, true, true, false, false, false, false, false, false, false, false, false, false, false, false, false, false, false, false, false, false, false, false, false, false] rfl rfl (any_of HT_.out (by kernel_rfl)) (fun _ _ _ h => h) (Or.inl ⟨by rfl, ?_⟩) ?_ ?_
                                      rotate_left
                                      · intro w'
                                        go_simp
                                        with_reducible rfl
                                      rotate_left
                                      · simp only [Act.put, List.setIfInBounds_toArray, List.set_cons_zero, List.set_cons_succ, i64_w, i32_w]
                                        rfl
                                      refine take_ (i := 4) (N := some 83) (v := ?_) (a' := ?_) #[true, true, true, true, true, true, true, true, false, false, false, false, false, false, false, false, false, false, false, false, false, false, false, false, false, false, false, false, false, false] rfl rfl (take_ofW HT_.out HW_.out (by kernel_rfl)) (fun _ _ _ h => h) (Or.inl ⟨by rfl, ?_⟩) hHeld ?_ ?_
                                      rotate_left
                                      · rintro w' ⟨s0, s1, s2, s3, s4⟩
                                        go_simp
                                        with_reducible rfl
                                      rotate_left
                                      · simp only [Act.put, List.setIfInBounds_toArray, List.set_cons_zero, List.set_cons_succ, i64_w, i32_w]
                                        rfl
                                      refine take_ (i := 8) (N := some 87) (v := ?_) (a' := ?_) #[true, true, true, true, true, true, true, true, true, false, false, false, false, false, false, false, false, false, false, false, false, false, false, false, false, false, false, false, false, false] rfl rfl (take_ofW HT_.out HW_.out (by kernel_rfl)) (fun _ _ _ h => h) (Or.inl ⟨by rfl, ?_⟩) hHeld ?_ ?_
                                      rotate_left
                                      · rintro w' ⟨s0, s1, s2, s3, s4⟩
                                        go_simp
                                        with_reducible rfl
                                      rotate_left
                                      · simp only [Act.put, List.setIfInBounds_toArray, List.set_cons_zero, List.set_cons_succ, i64_w, i32_w]
                                        rfl
                                      refine one_ (i := 9) (N := some 88) #[true, true, true, true, true, true, true, true, true, true, false, false, false, false, false, false, false, false, false, false, false, false, false, false, false, false, false, false, false, false] rfl rfl (one_of HT_.out (by kernel_rfl)) (by decide) (fun K hK => ?_)
                                      refine goes_ Try.func17 (by kernel_rfl) rfl #[.slice A322_1 ((rd_T43 t318 x14_4).f1).length c322_1, .slice A323_0 (rd_L1 t284 x14_4).length c323_0] (by rfl) rfl rfl (by (try simp only [List.map_toArray, List.map_cons, List.map_nil]); first | done | rfl | (simp only [List.length_drop, List.length_take]; rfl)) ?_
                                      with_reducible refine (customsref33_SameBytes.calls _ _ ((rd_T43 t318 x14_4).f1) _ _ (rd_L1 t284 x14_4) true _ ?side1 ?side2 ?side3 ?side4 A51.out).mono ?_
                                      (case side1 => repeat (first | exact (by repeat (first | (with_reducible exact HR322_1.out) | (with_reducible refine Kd.C_alloc ?_ _) | (with_reducible refine Kd.C_drewN ?_ _) | (with_reducible refine Kd.C_drew ?_) | exact HR322_1.out)) | (with_reducible refine Kd.C_alloc ?_ _) | (with_reducible refine Kd.C_drewN ?_ _) | (with_reducible refine Kd.C_drew ?_)))
                                      (case side2 => exact HC322_1.out)
                                      (case side3 => repeat (first | exact (by repeat (first | (with_reducible exact HR323_0.out) | (with_reducible refine Kd.C_alloc ?_ _) | (with_reducible refine Kd.C_drewN ?_ _) | (with_reducible refine Kd.C_drew ?_) | exact HR323_0.out)) | (with_reducible refine Kd.C_alloc ?_ _) | (with_reducible refine Kd.C_drewN ?_ _) | (with_reducible refine Kd.C_drew ?_)))
                                      (case side4 => exact HC323_0.out)
                                      rintro e w' ⟨rfl, ⟨nd, rfl⟩⟩
                                      refine ⟨_, rfl, ?_⟩
                                      refine hK.out _ _ ⟨hHeld.1, hHeld.2.1, hHeld.2.2.1, hHeld.2.2.2.1, hHeld.2.2.2.2⟩ (fun hHeld => ?_)
                                      clear hK K
                                      refine norm_ (a' := ?_) ?_ ?_
                                      rotate_left
                                      · show Act.put _ (some 88) _ = _
                                        simp only [Act.put, List.setIfInBounds_toArray, List.set_cons_zero, List.set_cons_succ, i64_w, i32_w]
                                        rfl
                                      refine pure_ (i := 10) (N := some 89) (v := ?_) (a' := ?_) #[true, true, true, true, true, true, true, true, true, true, true, false, false, false, false, false, false, false, false, false, false, false, false, false, false, false, false, false, false, false] rfl rfl (any_of HT_.out (by kernel_rfl)) (fun _ _ _ h => h) (Or.inl ⟨by rfl, ?_⟩) ?_ ?_
                                      rotate_left
                                      · intro w'
                                        go_simp
                                        with_reducible rfl
                                      rotate_left
                                      · simp only [Act.put, List.setIfInBounds_toArray, List.set_cons_zero, List.set_cons_succ, i64_w, i32_w]
                                        rfl
                                      refine pure_ (i := 11) (N := some 90) (v := ?_) (a' := ?_) #[true, true, true, true, true, true, true, true, true, true, true, true, false, false, false, false, false, false, false, false, false, false, false, false, false, false, false, false, false, false] rfl rfl (any_of HT_.out (by kernel_rfl)) (fun _ _ _ h => h) (Or.inl ⟨by rfl, ?_⟩) ?_ ?_
                                      rotate_left
                                      · intro w'
                                        go_simp
                                        with_reducible rfl
                                      rotate_left
                                      · simp only [Act.put, List.setIfInBounds_toArray, List.set_cons_zero, List.set_cons_succ, i64_w, i32_w]
                                        rfl
                                      refine pure_ (i := 12) (N := some 91) (v := ?_) (a' := ?_) #[true, true, true, true, true, true, true, true, true, true, true, true, true, false, false, false, false, false, false, false, false, false, false, false, false, false, false, false, false, false] rfl rfl (any_of HT_.out (by kernel_rfl)) (fun _ _ _ h => h) (Or.inl ⟨by rfl, ?_⟩) ?_ ?_
                                      rotate_left
                                      · intro w'
                                        go_simp
                                        with_reducible rfl
                                      rotate_left
                                      · simp only [Act.put, List.setIfInBounds_toArray, List.set_cons_zero, List.set_cons_succ, i64_w, i32_w]
                                        rfl
                                      refine pure_ (i := 13) (N := some 92) (v := ?_) (a' := ?_) #[true, true, true, true, true, true, true, true, true, true, true, true, true, true, false, false, false, false, false, false, false, false, false, false, false, false, false, false, false, false] rfl rfl (any_of HT_.out (by kernel_rfl)) (fun _ _ _ h => h) (Or.inl ⟨by rfl, ?_⟩) ?_ ?_
                                      rotate_left
                                      · intro w'
                                        go_simp
                                        with_reducible rfl
                                      rotate_left
                                      · simp only [Act.put, List.setIfInBounds_toArray, List.set_cons_zero, List.set_cons_succ, i64_w, i32_w]
                                        rfl
                                      refine pure_ (i := 14) (N := some 93) (v := ?_) (a' := ?_) #[true, true, true, true, true, true, true, true, true, true, true, true, true, true, true, false, false, false, false, false, false, false, false, false, false, false, false, false, false, false] rfl rfl (any_of HT_.out (by kernel_rfl)) (fun _ _ _ h => h) (Or.inl ⟨by rfl, ?_⟩) ?_ ?_
                                      rotate_left
                                      · intro w'
                                        go_simp
                                        with_reducible rfl
                                      rotate_left
                                      · simp only [Act.put, List.setIfInBounds_toArray, List.set_cons_zero, List.set_cons_succ, i64_w, i32_w]
                                        rfl
                                      refine pure_ (i := 15) (N := some 94) (v := ?_) (a' := ?_) #[true, true, true, true, true, true, true, true, true, true, true, true, true, true, true, true, false, false, false, false, false, false, false, false, false, false, false, false, false, false] rfl rfl (any_of HT_.out (by kernel_rfl)) (fun _ _ _ h => h) (Or.inl ⟨by rfl, ?_⟩) ?_ ?_
                                      rotate_left
                                      · intro w'
                                        go_simp
                                        with_reducible rfl
                                      rotate_left
                                      · simp only [Act.put, List.setIfInBounds_toArray, List.set_cons_zero, List.set_cons_succ, i64_w, i32_w]
                                        rfl
                                      refine pure_ (i := 18) (N := some 97) (v := ?_) (a' := ?_) #[true, true, true, true, true, true, true, true, true, true, true, true, true, true, true, true, false, false, true, false, false, false, false, false, false, false, false, false, false, false] rfl rfl (any_of HT_.out (by kernel_rfl)) (fun _ _ _ h => h) (Or.inl ⟨by rfl, ?_⟩) ?_ ?_
                                      rotate_left
                                      · intro w'
                                        go_simp
                                        with_reducible rfl
                                      rotate_left
                                      · simp only [Act.put, List.setIfInBounds_toArray, List.set_cons_zero, List.set_cons_succ, i64_w, i32_w]
                                        rfl
                                      refine pure_ (i := 19) (N := some 98) (v := ?_) (a' := ?_) #[true, true, true, true, true, true, true, true, true, true, true, true, true, true, true, true, false, false, true, true, false, false, false, false, false, false, false, false, false, false] rfl rfl (any_of HT_.out (by kernel_rfl)) (fun _ _ _ h => h) (Or.inl ⟨by rfl, ?_⟩) ?_ ?_
                                      rotate_left
                                      · intro w'
                                        go_simp
                                        with_reducible rfl
                                      rotate_left
                                      · simp only [Act.put, List.setIfInBounds_toArray, List.set_cons_zero, List.set_cons_succ, i64_w, i32_w]
                                        rfl
                                      refine pure_ (i := 20) (N := some 99) (v := ?_) (a' := ?_) #[true, true, true, true, true, true, true, true, true, true, true, true, true, true, true, true, false, false, true, true, true, false, false, false, false, false, false, false, false, false] rfl rfl (any_of HT_.out (by kernel_rfl)) (fun _ _ _ h => h) (Or.inl ⟨by rfl, ?_⟩) ?_ ?_
                                      rotate_left
                                      · intro w'
                                        go_simp
                                        with_reducible rfl
                                      rotate_left
                                      · simp only [Act.put, List.setIfInBounds_toArray, List.set_cons_zero, List.set_cons_succ, i64_w, i32_w]
                                        rfl
                                      refine pure_ (i := 21) (N := some 100) (v := ?_) (a' := ?_) #[true, true, true, true, true, true, true, true, true, true, true, true, true, true, true, true, false, false, true, true, true, true, false, false, false, false, false, false, false, false] rfl rfl (any_of HT_.out (by kernel_rfl)) (fun _ _ _ h => h) (Or.inl ⟨by rfl, ?_⟩) ?_ ?_
                                      rotate_left
                                      · intro w'
                                        go_simp
                                        with_reducible rfl
                                      rotate_left
                                      · simp only [Act.put, List.setIfInBounds_toArray, List.set_cons_zero, List.set_cons_succ, i64_w, i32_w]
                                        rfl
                                      refine pure_ (i := 22) (N := some 101) (v := ?_) (a' := ?_) #[true, true, true, true, true, true, true, true, true, true, true, true, true, true, true, true, false, false, true, true, true, true, true, false, false, false, false, false, false, false] rfl rfl (any_of HT_.out (by kernel_rfl)) (fun _ _ _ h => h) (Or.inl ⟨by rfl, ?_⟩) ?_ ?_
                                      rotate_left
                                      · intro w'
                                        go_simp
                                        with_reducible rfl
                                      rotate_left
                                      · simp only [Act.put, List.setIfInBounds_toArray, List.set_cons_zero, List.set_cons_succ, i64_w, i32_w]
                                        rfl
                                      refine pure_ (i := 23) (N := some 102) (v := undef) (a' := ?_) #[true, true, true, true, true, true, true, true, true, true, true, true, true, true, true, true, false, false, true, true, true, true, true, true, false, false, false, false, false, false] rfl rfl (any_of HT_.out (by kernel_rfl)) (fun _ _ _ h => h) (Or.inr ⟨by rfl, rfl⟩) ?_ ?_
                                      rotate_left
                                      · simp only [Act.put, List.setIfInBounds_toArray, List.set_cons_zero, List.set_cons_succ, i64_w, i32_w]
                                        rfl
                                      refine pure_ (i := 24) (N := some 103) (v := undef) (a' := ?_) #[true, true, true, true, true, true, true, true, true, true, true, true, true, true, true, true, false, false, true, true, true, true, true, true, true, false, false, false, false, false] rfl rfl (any_of HT_.out (by kernel_rfl)) (fun _ _ _ h => h) (Or.inr ⟨by rfl, rfl⟩) ?_ ?_
                                      rotate_left
                                      · simp only [Act.put, List.setIfInBounds_toArray, List.set_cons_zero, List.set_cons_succ, i64_w, i32_w]
                                        rfl
                                      refine pure_ (i := 25) (N := some 104) (v := undef) (a' := ?_) #[true, true, true, true, true, true, true, true, true, true, true, true, true, true, true, true, false, false, true, true, true, true, true, true, true, true, false, false, false, false] rfl rfl (any_of HT_.out (by kernel_rfl)) (fun _ _ _ h => h) (Or.inr ⟨by rfl, rfl⟩) ?_ ?_
                                      rotate_left
                                      · simp only [Act.put, List.setIfInBounds_toArray, List.set_cons_zero, List.set_cons_succ, i64_w, i32_w]
                                        rfl
                                      refine pure_ (i := 26) (N := some 105) (v := undef) (a' := ?_) #[true, true, true, true, true, true, true, true, true, true, true, true, true, true, true, true, false, false, true, true, true, true, true, true, true, true, true, false, false, false] rfl rfl (any_of HT_.out (by kernel_rfl)) (fun _ _ _ h => h) (Or.inr ⟨by rfl, rfl⟩) ?_ ?_
                                      rotate_left
                                      · simp only [Act.put, List.setIfInBounds_toArray, List.set_cons_zero, List.set_cons_succ, i64_w, i32_w]
                                        rfl
                                      refine pure_ (i := 27) (N := some 106) (v := ?_) (a' := ?_) #[true, true, true, true, true, true, true, true, true, true, true, true, true, true, true, true, false, false, true, true, true, true, true, true, true, true, true, true, false, false] rfl rfl (any_of HT_.out (by kernel_rfl)) (fun _ _ _ h => h) (Or.inl ⟨by rfl, ?_⟩) ?_ ?_
                                      rotate_left
                                      · intro w'
                                        go_simp
                                        with_reducible rfl
                                      rotate_left
                                      · simp only [Act.put, List.setIfInBounds_toArray, List.set_cons_zero, List.set_cons_succ, i64_w, i32_w]
                                        rfl
                                      refine take_ (i := 16) (N := some 95) (v := ?_) (a' := ?_) #[true, true, true, true, true, true, true, true, true, true, true, true, true, true, true, true, true, false, true, true, true, true, true, true, true, true, true, true, false, false] rfl rfl (take_ofW HT_.out HW_.out (by kernel_rfl)) (fun _ _ _ h => h) (Or.inl ⟨by rfl, ?_⟩) hHeld ?_ ?_
                                      rotate_left
                                      · rintro w' ⟨s0, s1, s2, s3, s4⟩
                                        go_simp
                                        with_reducible rfl
                                      rotate_left
                                      · simp only [Act.put, List.setIfInBounds_toArray, List.set_cons_zero, List.set_cons_succ, i64_w, i32_w]
                                        rfl
                                      refine pure_ (i := 17) (N := some 96) (v := ?_) (a' := ?_) #[true, true, true, true, true, true, true, true, true, true, true, true, true, true, true, true, true, true, true, true, true, true, true, true, true, true, true, true, false, false] rfl rfl (any_of HT_.out (by kernel_rfl)) (fun _ _ _ h => h) (Or.inl ⟨by rfl, ?_⟩) ?_ ?_
                                      rotate_left
                                      · intro w'
                                        go_simp
                                        with_reducible rfl
                                      rotate_left
                                      · simp only [Act.put, List.setIfInBounds_toArray, List.set_cons_zero, List.set_cons_succ, i64_w, i32_w]
                                        rfl
                                      refine pure_ (i := 28) (N := some 107) (v := ?_) (a' := ?_) #[true, true, true, true, true, true, true, true, true, true, true, true, true, true, true, true, true, true, true, true, true, true, true, true, true, true, true, true, true, false] rfl rfl (any_of HT_.out (by kernel_rfl)) (fun _ _ _ h => h) (Or.inl ⟨by rfl, ?_⟩) ?_ ?_
                                      rotate_left
                                      · intro w'
                                        go_simp
                                        with_reducible rfl
                                      rotate_left
                                      · simp only [Act.put, List.setIfInBounds_toArray, List.set_cons_zero, List.set_cons_succ, i64_w, i32_w]
                                        rfl
                                      refine pure_ (i := 29) (N := some 108) (v := ?_) (a' := ?_) #[true, true, true, true, true, true, true, true, true, true, true, true, true, true, true, true, true, true, true, true, true, true, true, true, true, true, true, true, true, true] rfl rfl (any_of HT_.out (by kernel_rfl)) (fun _ _ _ h => h) (Or.inl ⟨by rfl, ?_⟩) ?_ ?_
                                      rotate_left
                                      · intro w'
                                        go_simp
                                        with_reducible rfl
                                      rotate_left
                                      · simp only [Act.put, List.setIfInBounds_toArray, List.set_cons_zero, List.set_cons_succ, i64_w, i32_w]
                                        rfl
                                      refine done_ (done_of HT_.out (by kernel_rfl)) ?_
                                      try go_wp2
                                      go_roundg k4
                                      case measure => have := HK1.out; have := HJ27.out; have := HJ35.out; have := HK4.out; omega
                                      case rel => exact ⟨(wrap64 (x14_4 + 1)), (by first | rfl | (simp; done) | (simp [*]; done)), H', ⟨by have := HK1.out; have := HJ27.out; have := HJ35.out; have := HK4.out; omega⟩, ⟨by (with_reducible repeat (first | apply Kd.N_alloc | apply Kd.N_drewN | apply Kd.N_drew)); exact HO_0.out⟩, ⟨by (with_reducible repeat (first | apply Kd.N_alloc | apply Kd.N_drewN | apply Kd.N_drew)); exact HO_12.out⟩, ⟨by repeat (first | (with_reducible first | exact HB.out | apply below_alloc | apply pw_below_drewN | apply below_drew1) | exact HB.out)⟩⟩
                                · replace c52 := Bool.eq_false_iff.mpr c52
                                  subst c52
                                  have H1 : (some false) = some true := by rw [if_neg (show ¬ (false = true) by decide)] at H; exact H
                                  clear H
                                  have H := H1
                                  clear H1
                                  exact absurd (Option.some.inj H) (by simp)
                              · rw [if_neg c50] at H
                                exact absurd H (by simp)
                            · rw [if_neg c49] at H
                              exact absurd H (by simp)
                          · rw [if_neg c48] at H
                            have c48b0 : decide (x14_4 < (t284.length : Int)) = false := decide_eq_false c48
                            clear c48
                            replace H := Option.bind_eq_some_iff.mp H
                            obtain ⟨t327, A600, H⟩ := H
                            replace H : (some t327) = some true := H
                            have A60 := Aside0.mk A600
                            clear A600
                            have HTR := Aside0.mk (Option.some.inj H)
                            clear H
                            go_wp2_with (first | ((with_reducible refine gate_callee (f := 32) rfl ?_); refine goesL_ (some 109) rfl rfl Try.func32 (by kernel_rfl) rfl #[] rfl (by (try simp only [List.map_toArray, List.map_cons, List.map_nil]); first | done | rfl | (simp only [List.length_drop, List.length_take]; rfl)) ?_; (with_reducible refine (customslaw34_awake.calls k4  t327 _ A60.out).mono ?_); rintro e w61 ⟨rfl, hb⟩; refine ⟨_, rfl, ?_⟩; have n0_ := Aside0.mk (Kd.N_below (by (with_reducible repeat (first | apply Kd.N_alloc | apply Kd.N_drewN | apply Kd.N_drew)); exact HO_0.out) hb); have n1_ := Aside0.mk (Kd.N_below (by (with_reducible repeat (first | apply Kd.N_alloc | apply Kd.N_drewN | apply Kd.N_drew)); exact HO_12.out) hb); have n2_ := Aside0.mk (below_step (by repeat (first | (with_reducible first | exact HB.out | apply below_alloc | apply pw_below_drewN | apply below_drew1) | exact HB.out)) hb); clear HO_0; clear HO_12; clear HB; have HO_0 := n0_; have HO_12 := n1_; have HB := n2_; clear n0_ n1_ n2_; (try clear hb); (try clear hb2); (try clear hk); (try clear hi)))
                            go_ret
                            exact ⟨by first | rfl | (rw [HTR.out]; first | done | rfl) | (simp [errW_none, errW_some] <;> rfl) | (simp [*, errW_none, errW_some] <;> rfl), by repeat (first | (with_reducible first | exact HB.out | apply below_alloc | apply pw_below_drewN | apply below_drew1) | exact HB.out)⟩
              · rw [if_neg c34] at H
                exact absurd H (by simp)
            · rw [if_neg c33] at H
              exact absurd H (by simp)

end Go.Proofs.Ythnlepmfjhhgfaa.PJournalScan
