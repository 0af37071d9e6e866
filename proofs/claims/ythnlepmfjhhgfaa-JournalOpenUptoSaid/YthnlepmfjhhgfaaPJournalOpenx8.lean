-- Printed by a patched copy of the kit's printer (wip/prt); nothing here is trusted, Lean checks it.
import Derived.Test.YthnlepmfjhhgfaaPJournalOpenx0
import Derived.Test.YthnlepmfjhhgfaaPJournalOpenx1
import Derived.Test.YthnlepmfjhhgfaaPJournalOpenx2
import Derived.Test.YthnlepmfjhhgfaaPJournalOpenx4
import Derived.Test.YthnlepmfjhhgfaaPJournalOpenx5
import Derived.Test.YthnlepmfjhhgfaaPJournalOpenx7
namespace Go.Proofs.Ythnlepmfjhhgfaa.PJournalOpen
open Go.RowKit Go.Proofs.YthnlepmfjhhgfaaW.PrintWords Go.Proofs.YthnlepmfjhhgfaaW.PrintLast Go.Proofs.YthnlepmfjhhgfaaW.PrintMore
attribute [local go_sem] max2_int min2_int max_two min_two max_three min_three max_four min_four   -- for this text's walks alone
set_option linter.unusedVariables false
set_option linter.unusedSimpArgs false

/-! ### customslaw34_JournalOpen: function 9 -/
mutual
def customslaw34_JournalOpen.j3 : Nat → Int → List Int → List Int → List Int → Option (Bool)
  | 0, _, _, _, _ => none
  | k + 1, x420000, x420001, x424000, x424001 => (journal_Put.f k x424000 x424001 x420000 x420001).bind fun bt439 => ((customsref33_Put.f k x424000 x424001 x420000 x420001).bind fun bt447 => ((journal_Append.f k x424000 x424001 x420001).bind fun bt455 => ((customsref33_Append.f k x424000 x424001 x420001).bind fun bt463 => (if bt439.2.2 = bt447.2.2 then ((customsref33_SameDisk.f bt439.1 bt439.2.1 bt447.1 bt447.2.1).bind fun t471 => (if t471 = true then (if bt455.2.2 = bt463.2.2 then ((customsref33_SameDisk.f bt455.1 bt455.2.1 bt463.1 bt463.2.1).bind fun t472 => (customslaw34_JournalOpen.j4 k (!t472) x424000 x424001)) else (customslaw34_JournalOpen.j4 k true x424000 x424001)) else (customslaw34_JournalOpen.j4 k true x424000 x424001))) else (customslaw34_JournalOpen.j4 k true x424000 x424001)))))
def customslaw34_JournalOpen.j4 : Nat → Bool → List Int → List Int → Option (Bool)
  | 0, _, _, _ => none
  | k + 1, x113, x424000, x424001 => if x113 = true then (some false) else ((journal_Open.f k x424000 x424001).bind fun bt473 => ((customsref33_Open.f k x424000 x424001).bind fun bt487 => ((customsref33_SameDisk.f bt473.1 bt473.2.1 bt487.1 bt487.2.1).bind fun t501 => (if t501 = true then ((customsref33_SameBytes.f bt473.2.2.1 bt487.2.2.1).bind fun t502 => (if t502 = true then (if (bt473.2.2.2.1 == bt487.2.2.2.1) = true then ((customsref33_SameRecords.f k bt473.2.2.2.2 bt487.2.2.2.2).bind fun t503 => (if t503 = true then ((customslaw34_awake.f k).bind fun t504 => (some t504)) else (some false))) else (some false)) else (some false))) else (some false)))))
def customslaw34_JournalOpen.l0 : Nat → List (List Int) → List Bool → Int → Int → List Int → List Int → List Int → Option (Bool)
  | 0, _, _, _, _, _, _, _ => none
  | k + 1, x0, x1, x12, x420000, x420001, x424000, x424001 => if x12 < (x0.length : Int) then (if x12 < (x1.length : Int) then (if 0 ≤ x12 then (customslaw34_JournalOpen.j1 k x0 x1 x12 1 (rdOf false x1 x12) x420000 x420001 x424000 x424001) else (none)) else (customslaw34_JournalOpen.j1 k x0 x1 x12 1 false x420000 x420001 x424000 x424001)) else (customslaw34_JournalOpen.j3 k x420000 x420001 x424000 x424001)
def customslaw34_JournalOpen.j1 : Nat → List (List Int) → List Bool → Int → Int → Bool → Int → List Int → List Int → List Int → Option (Bool)
  | 0, _, _, _, _, _, _, _, _, _ => none
  | k + 1, x0, x1, x12, x13, x51, x420000, x420001, x424000, x424001 => if x51 = true then (customslaw34_JournalOpen.j2 k x0 x1 x12 2 x420000 x420001 x424000 x424001) else (customslaw34_JournalOpen.j2 k x0 x1 x12 x13 x420000 x420001 x424000 x424001)
def customslaw34_JournalOpen.j2 : Nat → List (List Int) → List Bool → Int → Int → Int → List Int → List Int → List Int → Option (Bool)
  | 0, _, _, _, _, _, _, _, _ => none
  | k + 1, x0, x1, x12, x13, x420000, x420001, x424000, x424001 => if 0 ≤ x12 then (if x12 < (x0.length : Int) then ((customsref33_Put.f k x424000 x424001 x13 (rd_L1 x0 x12)).bind fun bt426 => (if (Int.tmod x12 3) = 1 then ((customsref33_Sync.f bt426.1 bt426.2.1).bind fun bt433 => (customslaw34_JournalOpen.l0 k x0 x1 (wrap64 (x12 + 1)) x420000 x420001 bt433.1 bt433.2)) else (customslaw34_JournalOpen.l0 k x0 x1 (wrap64 (x12 + 1)) x420000 x420001 bt426.1 bt426.2.1))) else (none)) else (none)
end
def customslaw34_JournalOpen.f (k : Nat) (l0 : List (List Int)) (l1 : List Bool) (l2_0 : List Int) (l2_1 : List Int) (a3_0 : Int) (l3_1 : List Int) (a4 : Bool) : Option (Bool) := (customslaw34_cut.f k l0).bind fun t420 => (if a4 = true then (customslaw34_JournalOpen.j3 k a3_0 l3_1 l2_0 l2_1) else (customslaw34_JournalOpen.l0 k t420 l1 0 a3_0 l3_1 ([] : List Int) ([] : List Int)))
theorem customslaw34_JournalOpen.mono_l : ∀ k, (∀ y0 y1 y2 y3, LeO (customslaw34_JournalOpen.j3 k y0 y1 y2 y3) (customslaw34_JournalOpen.j3 (k + 1) y0 y1 y2 y3)) ∧ (∀ y0 y1 y2, LeO (customslaw34_JournalOpen.j4 k y0 y1 y2) (customslaw34_JournalOpen.j4 (k + 1) y0 y1 y2)) ∧ (∀ y0 y1 y2 y3 y4 y5 y6, LeO (customslaw34_JournalOpen.l0 k y0 y1 y2 y3 y4 y5 y6) (customslaw34_JournalOpen.l0 (k + 1) y0 y1 y2 y3 y4 y5 y6)) ∧ (∀ y0 y1 y2 y3 y4 y5 y6 y7 y8, LeO (customslaw34_JournalOpen.j1 k y0 y1 y2 y3 y4 y5 y6 y7 y8) (customslaw34_JournalOpen.j1 (k + 1) y0 y1 y2 y3 y4 y5 y6 y7 y8)) ∧ (∀ y0 y1 y2 y3 y4 y5 y6 y7, LeO (customslaw34_JournalOpen.j2 k y0 y1 y2 y3 y4 y5 y6 y7) (customslaw34_JournalOpen.j2 (k + 1) y0 y1 y2 y3 y4 y5 y6 y7))
  | 0 => ⟨fun _ _ _ _ r h => by simp [customslaw34_JournalOpen.j3] at h, fun _ _ _ r h => by simp [customslaw34_JournalOpen.j4] at h, fun _ _ _ _ _ _ _ r h => by simp [customslaw34_JournalOpen.l0] at h, fun _ _ _ _ _ _ _ _ _ r h => by simp [customslaw34_JournalOpen.j1] at h, fun _ _ _ _ _ _ _ _ r h => by simp [customslaw34_JournalOpen.j2] at h⟩
  | k + 1 => by
    obtain ⟨ih0, ih1, ih2, ih3, ih4⟩ := customslaw34_JournalOpen.mono_l k
    refine ⟨?_, ?_, ?_, ?_, ?_⟩
    · intro y0 y1 y2 y3
      unfold customslaw34_JournalOpen.j3
      repeat' first
      | (with_reducible exact ih0 _ _ _ _)
      | (with_reducible exact ih1 _ _ _)
      | (with_reducible exact ih2 _ _ _ _ _ _ _)
      | (with_reducible exact ih3 _ _ _ _ _ _ _ _ _)
      | (with_reducible exact ih4 _ _ _ _ _ _ _ _)
      | (with_reducible exact customslaw34_awake.mono _)
      | (with_reducible exact customslaw34_cut.mono _ _)
      | (with_reducible exact customsref33_Append.mono _ _ _ _)
      | (with_reducible exact customsref33_Open.mono _ _ _)
      | (with_reducible exact customsref33_Put.mono _ _ _ _ _)
      | (with_reducible exact customsref33_SameRecords.mono _ _ _)
      | (with_reducible exact journal_Append.mono _ _ _ _)
      | (with_reducible exact journal_Open.mono _ _ _)
      | (with_reducible exact journal_Put.mono _ _ _ _ _)
      | (with_reducible exact LeO.refl _)
      | (with_reducible exact LeO.none _)
      | (with_reducible refine LeO.ite ?_ ?_)
      | (with_reducible refine LeO.bind ?_ (fun _ => ?_))
      | exact ih0 _ _ _ _
      | exact ih1 _ _ _
      | exact ih2 _ _ _ _ _ _ _
      | exact ih3 _ _ _ _ _ _ _ _ _
      | exact ih4 _ _ _ _ _ _ _ _
      | exact customslaw34_awake.mono _
      | exact customslaw34_cut.mono _ _
      | exact customsref33_Append.mono _ _ _ _
      | exact customsref33_Open.mono _ _ _
      | exact customsref33_Put.mono _ _ _ _ _
      | exact customsref33_SameRecords.mono _ _ _
      | exact journal_Append.mono _ _ _ _
      | exact journal_Open.mono _ _ _
      | exact journal_Put.mono _ _ _ _ _
      | exact LeO.none _
      | refine LeO.ite ?_ ?_
      | refine LeO.bind ?_ (fun _ => ?_)
    · intro y0 y1 y2
      unfold customslaw34_JournalOpen.j4
      repeat' first
      | (with_reducible exact ih0 _ _ _ _)
      | (with_reducible exact ih1 _ _ _)
      | (with_reducible exact ih2 _ _ _ _ _ _ _)
      | (with_reducible exact ih3 _ _ _ _ _ _ _ _ _)
      | (with_reducible exact ih4 _ _ _ _ _ _ _ _)
      | (with_reducible exact customslaw34_awake.mono _)
      | (with_reducible exact customslaw34_cut.mono _ _)
      | (with_reducible exact customsref33_Append.mono _ _ _ _)
      | (with_reducible exact customsref33_Open.mono _ _ _)
      | (with_reducible exact customsref33_Put.mono _ _ _ _ _)
      | (with_reducible exact customsref33_SameRecords.mono _ _ _)
      | (with_reducible exact journal_Append.mono _ _ _ _)
      | (with_reducible exact journal_Open.mono _ _ _)
      | (with_reducible exact journal_Put.mono _ _ _ _ _)
      | (with_reducible exact LeO.refl _)
      | (with_reducible exact LeO.none _)
      | (with_reducible refine LeO.ite ?_ ?_)
      | (with_reducible refine LeO.bind ?_ (fun _ => ?_))
      | exact ih0 _ _ _ _
      | exact ih1 _ _ _
      | exact ih2 _ _ _ _ _ _ _
      | exact ih3 _ _ _ _ _ _ _ _ _
      | exact ih4 _ _ _ _ _ _ _ _
      | exact customslaw34_awake.mono _
      | exact customslaw34_cut.mono _ _
      | exact customsref33_Append.mono _ _ _ _
      | exact customsref33_Open.mono _ _ _
      | exact customsref33_Put.mono _ _ _ _ _
      | exact customsref33_SameRecords.mono _ _ _
      | exact journal_Append.mono _ _ _ _
      | exact journal_Open.mono _ _ _
      | exact journal_Put.mono _ _ _ _ _
      | exact LeO.none _
      | refine LeO.ite ?_ ?_
      | refine LeO.bind ?_ (fun _ => ?_)
    · intro y0 y1 y2 y3 y4 y5 y6
      unfold customslaw34_JournalOpen.l0
      repeat' first
      | (with_reducible exact ih0 _ _ _ _)
      | (with_reducible exact ih1 _ _ _)
      | (with_reducible exact ih2 _ _ _ _ _ _ _)
      | (with_reducible exact ih3 _ _ _ _ _ _ _ _ _)
      | (with_reducible exact ih4 _ _ _ _ _ _ _ _)
      | (with_reducible exact customslaw34_awake.mono _)
      | (with_reducible exact customslaw34_cut.mono _ _)
      | (with_reducible exact customsref33_Append.mono _ _ _ _)
      | (with_reducible exact customsref33_Open.mono _ _ _)
      | (with_reducible exact customsref33_Put.mono _ _ _ _ _)
      | (with_reducible exact customsref33_SameRecords.mono _ _ _)
      | (with_reducible exact journal_Append.mono _ _ _ _)
      | (with_reducible exact journal_Open.mono _ _ _)
      | (with_reducible exact journal_Put.mono _ _ _ _ _)
      | (with_reducible exact LeO.refl _)
      | (with_reducible exact LeO.none _)
      | (with_reducible refine LeO.ite ?_ ?_)
      | (with_reducible refine LeO.bind ?_ (fun _ => ?_))
      | exact ih0 _ _ _ _
      | exact ih1 _ _ _
      | exact ih2 _ _ _ _ _ _ _
      | exact ih3 _ _ _ _ _ _ _ _ _
      | exact ih4 _ _ _ _ _ _ _ _
      | exact customslaw34_awake.mono _
      | exact customslaw34_cut.mono _ _
      | exact customsref33_Append.mono _ _ _ _
      | exact customsref33_Open.mono _ _ _
      | exact customsref33_Put.mono _ _ _ _ _
      | exact customsref33_SameRecords.mono _ _ _
      | exact journal_Append.mono _ _ _ _
      | exact journal_Open.mono _ _ _
      | exact journal_Put.mono _ _ _ _ _
      | exact LeO.none _
      | refine LeO.ite ?_ ?_
      | refine LeO.bind ?_ (fun _ => ?_)
    · intro y0 y1 y2 y3 y4 y5 y6 y7 y8
      unfold customslaw34_JournalOpen.j1
      repeat' first
      | (with_reducible exact ih0 _ _ _ _)
      | (with_reducible exact ih1 _ _ _)
      | (with_reducible exact ih2 _ _ _ _ _ _ _)
      | (with_reducible exact ih3 _ _ _ _ _ _ _ _ _)
      | (with_reducible exact ih4 _ _ _ _ _ _ _ _)
      | (with_reducible exact customslaw34_awake.mono _)
      | (with_reducible exact customslaw34_cut.mono _ _)
      | (with_reducible exact customsref33_Append.mono _ _ _ _)
      | (with_reducible exact customsref33_Open.mono _ _ _)
      | (with_reducible exact customsref33_Put.mono _ _ _ _ _)
      | (with_reducible exact customsref33_SameRecords.mono _ _ _)
      | (with_reducible exact journal_Append.mono _ _ _ _)
      | (with_reducible exact journal_Open.mono _ _ _)
      | (with_reducible exact journal_Put.mono _ _ _ _ _)
      | (with_reducible exact LeO.refl _)
      | (with_reducible exact LeO.none _)
      | (with_reducible refine LeO.ite ?_ ?_)
      | (with_reducible refine LeO.bind ?_ (fun _ => ?_))
      | exact ih0 _ _ _ _
      | exact ih1 _ _ _
      | exact ih2 _ _ _ _ _ _ _
      | exact ih3 _ _ _ _ _ _ _ _ _
      | exact ih4 _ _ _ _ _ _ _ _
      | exact customslaw34_awake.mono _
      | exact customslaw34_cut.mono _ _
      | exact customsref33_Append.mono _ _ _ _
      | exact customsref33_Open.mono _ _ _
      | exact customsref33_Put.mono _ _ _ _ _
      | exact customsref33_SameRecords.mono _ _ _
      | exact journal_Append.mono _ _ _ _
      | exact journal_Open.mono _ _ _
      | exact journal_Put.mono _ _ _ _ _
      | exact LeO.none _
      | refine LeO.ite ?_ ?_
      | refine LeO.bind ?_ (fun _ => ?_)
    · intro y0 y1 y2 y3 y4 y5 y6 y7
      unfold customslaw34_JournalOpen.j2
      repeat' first
      | (with_reducible exact ih0 _ _ _ _)
      | (with_reducible exact ih1 _ _ _)
      | (with_reducible exact ih2 _ _ _ _ _ _ _)
      | (with_reducible exact ih3 _ _ _ _ _ _ _ _ _)
      | (with_reducible exact ih4 _ _ _ _ _ _ _ _)
      | (with_reducible exact customslaw34_awake.mono _)
      | (with_reducible exact customslaw34_cut.mono _ _)
      | (with_reducible exact customsref33_Append.mono _ _ _ _)
      | (with_reducible exact customsref33_Open.mono _ _ _)
      | (with_reducible exact customsref33_Put.mono _ _ _ _ _)
      | (with_reducible exact customsref33_SameRecords.mono _ _ _)
      | (with_reducible exact journal_Append.mono _ _ _ _)
      | (with_reducible exact journal_Open.mono _ _ _)
      | (with_reducible exact journal_Put.mono _ _ _ _ _)
      | (with_reducible exact LeO.refl _)
      | (with_reducible exact LeO.none _)
      | (with_reducible refine LeO.ite ?_ ?_)
      | (with_reducible refine LeO.bind ?_ (fun _ => ?_))
      | exact ih0 _ _ _ _
      | exact ih1 _ _ _
      | exact ih2 _ _ _ _ _ _ _
      | exact ih3 _ _ _ _ _ _ _ _ _
      | exact ih4 _ _ _ _ _ _ _ _
      | exact customslaw34_awake.mono _
      | exact customslaw34_cut.mono _ _
      | exact customsref33_Append.mono _ _ _ _
      | exact customsref33_Open.mono _ _ _
      | exact customsref33_Put.mono _ _ _ _ _
      | exact customsref33_SameRecords.mono _ _ _
      | exact journal_Append.mono _ _ _ _
      | exact journal_Open.mono _ _ _
      | exact journal_Put.mono _ _ _ _ _
      | exact LeO.none _
      | refine LeO.ite ?_ ?_
      | refine LeO.bind ?_ (fun _ => ?_)
theorem customslaw34_JournalOpen.mono : ∀ a0 a1 a2 a3 a4 a5 a6 k, LeO (customslaw34_JournalOpen.f k a0 a1 a2 a3 a4 a5 a6) (customslaw34_JournalOpen.f (k + 1) a0 a1 a2 a3 a4 a5 a6) := by
  intro a0 a1 a2 a3 a4 a5 a6 k
  obtain ⟨ih0, ih1, ih2, ih3, ih4⟩ := customslaw34_JournalOpen.mono_l k
  unfold customslaw34_JournalOpen.f
  repeat' first
      | (with_reducible exact ih0 _ _ _ _)
      | (with_reducible exact ih1 _ _ _)
      | (with_reducible exact ih2 _ _ _ _ _ _ _)
      | (with_reducible exact ih3 _ _ _ _ _ _ _ _ _)
      | (with_reducible exact ih4 _ _ _ _ _ _ _ _)
      | (with_reducible exact customslaw34_awake.mono _)
      | (with_reducible exact customslaw34_cut.mono _ _)
      | (with_reducible exact customsref33_Append.mono _ _ _ _)
      | (with_reducible exact customsref33_Open.mono _ _ _)
      | (with_reducible exact customsref33_Put.mono _ _ _ _ _)
      | (with_reducible exact customsref33_SameRecords.mono _ _ _)
      | (with_reducible exact journal_Append.mono _ _ _ _)
      | (with_reducible exact journal_Open.mono _ _ _)
      | (with_reducible exact journal_Put.mono _ _ _ _ _)
      | (with_reducible exact LeO.refl _)
      | (with_reducible exact LeO.none _)
      | (with_reducible refine LeO.ite ?_ ?_)
      | (with_reducible refine LeO.bind ?_ (fun _ => ?_))
      | exact ih0 _ _ _ _
      | exact ih1 _ _ _
      | exact ih2 _ _ _ _ _ _ _
      | exact ih3 _ _ _ _ _ _ _ _ _
      | exact ih4 _ _ _ _ _ _ _ _
      | exact customslaw34_awake.mono _
      | exact customslaw34_cut.mono _ _
      | exact customsref33_Append.mono _ _ _ _
      | exact customsref33_Open.mono _ _ _
      | exact customsref33_Put.mono _ _ _ _ _
      | exact customsref33_SameRecords.mono _ _ _
      | exact journal_Append.mono _ _ _ _
      | exact journal_Open.mono _ _ _
      | exact journal_Put.mono _ _ _ _ _
      | exact LeO.none _
      | refine LeO.ite ?_ ?_
      | refine LeO.bind ?_ (fun _ => ?_)
def customslaw34_JournalOpen.T11 : Bool × List (List Nat × List Nat) := (true, [([], []), ([], []), ([], []), ([], []), ([2, 3], [2, 3]), ([4], [4]), ([1, 5], [1, 5]), ([0, 6], [0, 6]), ([7], [7]), ([8], [8]), ([8], [8]), ([9, 7, 0, 1, 2, 3, 4, 5, 6, 7, 8, 9], [9])])
def customslaw34_JournalOpen.B11 : List Nat := [0, 0, 0, 0, 12, 28, 62, 127, 255, 511, 511, 1023]
theorem customslaw34_JournalOpen.tab11 : rtab .any (opsOf Try.f9 11) = customslaw34_JournalOpen.T11 := by kernel_rfl
theorem customslaw34_JournalOpen.bits11 : waitsOk customslaw34_JournalOpen.T11.2 customslaw34_JournalOpen.B11 = true := by kernel_rfl
set_option maxHeartbeats 8000000 in
set_option maxRecDepth 100000 in
theorem customslaw34_JournalOpen.calls (k : Nat) (P0_ : Nat → Prop) (A0 : Option Addr) (c0 : Nat) (l0 : List (List Int)) (A1 : Option Addr) (c1 : Nat) (l1 : List Bool) (P2_0_ : Nat → Prop) (A2_0 : Option Addr) (c2_0 : Nat) (l2_0 : List Int) (P2_1_ : Nat → Prop) (A2_1 : Option Addr) (c2_1 : Nat) (l2_1 : List Int) (a3_0 : Int) (P3_1_ : Nat → Prop) (A3_1 : Option Addr) (c3_1 : Nat) (l3_1 : List Int) (a4 : Bool) (w : World) (hs0 : Kd.V (Kd.slice 5 (Kd.int .u8)) 22 w w.heap.size (fun k_ => P0_ k_) (.slice A0 l0.length c0) l0) (hr1 : Kd.C Kd.bool w A1 l1.length l1) (hc1 : l1.length ≤ c1) (hs2_0 : Kd.V (Kd.int .u8) 5 w w.heap.size (fun k_ => P2_0_ k_) (.slice A2_0 l2_0.length c2_0) l2_0) (hs2_1 : Kd.V (Kd.int .u8) 5 w w.heap.size (fun k_ => P2_1_ k_) (.slice A2_1 l2_1.length c2_1) l2_1) (hs3_1 : Kd.V (Kd.int .u8) 5 w w.heap.size (fun k_ => P3_1_ k_) (.slice A3_1 l3_1.length c3_1) l3_1) (h : customslaw34_JournalOpen.f k l0 l1 l2_0 l2_1 a3_0 l3_1 a4 = some true) :
    Calls Try.prog 9 #[.slice A0 l0.length c0, .slice A1 l1.length c1, .agg #[.slice A2_0 l2_0.length c2_0, .slice A2_1 l2_1.length c2_1], .agg #[.int .i64 a3_0, .slice A3_1 l3_1.length c3_1], .bool a4] w fun e w' => e = .returned (.bool true) ∧ Below w.heap.size w w' := by
  have hu24 := Try.underlying24
  have hu43 := Try.underlying43
  have HO0 := Aside0.mk (show Kd.V (Kd.slice 5 (Kd.int .u8)) 22 w w.heap.size (fun k_ => ((P0_ k_ ∨ P2_0_ k_ ∨ P2_1_ k_ ∨ P3_1_ k_) ∨ w.heap.size ≤ k_)) (.slice A0 l0.length c0) l0 from Kd.V_mono hs0 (fun k_ hk => .inl (.inl hk)))
  have HR1 := Aside0.mk hr1
  have HC1 := Aside0.mk hc1
  clear hr1 hc1
  have HO2_0 := Aside0.mk (show Kd.V (Kd.int .u8) 5 w w.heap.size (fun k_ => ((P0_ k_ ∨ P2_0_ k_ ∨ P2_1_ k_ ∨ P3_1_ k_) ∨ w.heap.size ≤ k_)) (.slice A2_0 l2_0.length c2_0) l2_0 from Kd.V_mono hs2_0 (fun k_ hk => .inl (.inr (.inl hk))))
  have HO2_1 := Aside0.mk (show Kd.V (Kd.int .u8) 5 w w.heap.size (fun k_ => ((P0_ k_ ∨ P2_0_ k_ ∨ P2_1_ k_ ∨ P3_1_ k_) ∨ w.heap.size ≤ k_)) (.slice A2_1 l2_1.length c2_1) l2_1 from Kd.V_mono hs2_1 (fun k_ hk => .inl (.inr (.inr (.inl hk)))))
  have HO3_1 := Aside0.mk (show Kd.V (Kd.int .u8) 5 w w.heap.size (fun k_ => ((P0_ k_ ∨ P2_0_ k_ ∨ P2_1_ k_ ∨ P3_1_ k_) ∨ w.heap.size ≤ k_)) (.slice A3_1 l3_1.length c3_1) l3_1 from Kd.V_mono hs3_1 (fun k_ hk => .inl (.inr (.inr (.inr hk)))))
  have HB := Aside0.mk (Below.refl w.heap.size w)
  have H : ((customslaw34_cut.f k l0).bind fun t420 => (if a4 = true then (customslaw34_JournalOpen.j3 k a3_0 l3_1 l2_0 l2_1) else (customslaw34_JournalOpen.l0 k t420 l1 0 a3_0 l3_1 ([] : List Int) ([] : List Int)))) = some true := h
  clear h
  replace H := Option.bind_eq_some_iff.mp H
  obtain ⟨t420, A60, H⟩ := H
  replace H : (if a4 = true then (customslaw34_JournalOpen.j3 k a3_0 l3_1 l2_0 l2_1) else (customslaw34_JournalOpen.l0 k t420 l1 0 a3_0 l3_1 ([] : List Int) ([] : List Int))) = some true := H
  have A6 := Aside0.mk A60
  clear A60
  have HC7 := Aside0.mk H
  clear H
  go_enter Try.func9, Try.ntmps9
  go_upto_if 34 with (first | ((with_reducible refine gate_dst (N := 7) rfl ?_); refine box_event ?hg (N := 7) ?hd (cs := #[.slice A2_0 l2_0.length c2_0, .slice A2_1 l2_1.length c2_1]) (t := 24) ?hr ?_; (case hd => rfl); (case hg => rfl); (case hr => first | (go_simp; done) | (go_simp; rfl)); intro gb418 hg w8 hbox hb; have n0_ := Aside0.mk (Kd.V_below (Kd.V_elderB (by exact pV HO0.out) gb418 (Nat.le_of_eq hg.symm)) hb); have n1_ := Aside0.mk (Kd.V_below (Kd.V_elderB (by exact pV HO2_0.out) gb418 (Nat.le_of_eq hg.symm)) hb); have n2_ := Aside0.mk (Kd.V_below (Kd.V_elderB (by exact pV HO2_1.out) gb418 (Nat.le_of_eq hg.symm)) hb); have n3_ := Aside0.mk (Kd.V_below (Kd.V_elderB (by exact pV HO3_1.out) gb418 (Nat.le_of_eq hg.symm)) hb); have n4_ := Aside0.mk (below_step (by exact pB HB.out) hb); have n5_ := Aside0.mk (hbox); have n6_ := Aside0.mk ((by rw [hg]; exact (below_size (by exact pB HB.out)) : w.heap.size ≤ gb418)); have n7_ := Aside0.mk ((by rw [hg]; exact (below_size (by exact pB HB.out)) : w.heap.size ≤ gb418)); clear HO0; clear HO2_0; clear HO2_1; clear HO3_1; clear HB; have HO0 := n0_; have HO2_0 := n1_; have HO2_1 := n2_; have HO3_1 := n3_; have HB := n4_; have BK418 := n5_; have GW418 := n6_; have GE418 := n7_; clear n0_ n1_ n2_ n3_ n4_ n5_ n6_ n7_; clear hb hbox hg) | ((with_reducible refine gate_dst (N := 8) rfl ?_); refine box_event ?hg (N := 8) ?hd (cs := #[.int .i64 a3_0, .slice A3_1 l3_1.length c3_1]) (t := 43) ?hr ?_; (case hd => rfl); (case hg => rfl); (case hr => first | (go_simp; done) | (go_simp; rfl)); intro gb419 hg w9 hbox hb; have n0_ := Aside0.mk (Kd.V_below (Kd.V_elderB (by exact pV HO0.out) gb419 (Nat.le_of_eq hg.symm)) hb); have n1_ := Aside0.mk (Kd.V_below (Kd.V_elderB (by exact pV HO2_0.out) gb419 (Nat.le_of_eq hg.symm)) hb); have n2_ := Aside0.mk (Kd.V_below (Kd.V_elderB (by exact pV HO2_1.out) gb419 (Nat.le_of_eq hg.symm)) hb); have n3_ := Aside0.mk (Kd.V_below (Kd.V_elderB (by exact pV HO3_1.out) gb419 (Nat.le_of_eq hg.symm)) hb); have n4_ := Aside0.mk (blk_below (g := gb418) (o := .cells #[.slice A2_0 l2_0.length c2_0, .slice A2_1 l2_1.length c2_1] 24 (0, 0)) (by exact pK BK418.out) hb); have n5_ := Aside0.mk (below_step (by exact pB HB.out) hb); have n6_ := Aside0.mk (hbox); have n7_ := Aside0.mk ((by rw [hg]; exact (below_size (by exact pB HB.out)) : w.heap.size ≤ gb419)); have n8_ := Aside0.mk ((by rw [hg]; exact (below_size (by exact pB HB.out)) : w.heap.size ≤ gb419)); have n9_ := Aside0.mk ((by rw [hg]; exact Nat.ne_of_lt (blk_lt (g := gb418) (o := .cells #[.slice A2_0 l2_0.length c2_0, .slice A2_1 l2_1.length c2_1] 24 (0, 0)) (by exact pK BK418.out)) : gb418 ≠ gb419)); have n10_ := Aside0.mk ((by rw [hg]; exact Nat.ne_of_gt (blk_lt (g := gb418) (o := .cells #[.slice A2_0 l2_0.length c2_0, .slice A2_1 l2_1.length c2_1] 24 (0, 0)) (by exact pK BK418.out)) : gb419 ≠ gb418)); clear HO0; clear HO2_0; clear HO2_1; clear HO3_1; clear BK418; clear HB; have HO0 := n0_; have HO2_0 := n1_; have HO2_1 := n2_; have HO3_1 := n3_; have BK418 := n4_; have HB := n5_; have BK419 := n6_; have GW419 := n7_; have GE419 := n8_; have NB418_419 := n9_; have NB419_418 := n10_; clear n0_ n1_ n2_ n3_ n4_ n5_ n6_ n7_ n8_ n9_ n10_; clear hb hbox hg) | ((with_reducible refine gate_callee (f := 33) rfl ?_); refine goesL_ (some 31) rfl rfl Try.func33 (by kernel_rfl) rfl #[.slice A0 l0.length c0] rfl (by (try simp only [List.map_toArray, List.map_cons, List.map_nil]); first | done | rfl | (simp only [List.length_drop, List.length_take]; rfl)) ?_; (with_reducible refine (customslaw34_cut.calls k (fun k_ => ((((P0_ k_ ∨ P2_0_ k_ ∨ P2_1_ k_ ∨ P3_1_ k_) ∨ w.heap.size ≤ k_) ∧ k_ ≠ gb418) ∧ k_ ≠ gb419)) _ _ l0 t420 _ ?side1 A6.out).mono ?_); (case side1 => exact HO0.out); rintro e w10 ⟨v421, rfl, ho0, hb⟩; refine ⟨_, rfl, ?_⟩; have n0_ := Aside0.mk (Kd.V_elder' (by exact pV HO0.out) (by first | exact Kd.N_base ho0 | exact Kd.S_base ho0 | exact Kd.R_base ho0 | exact Kd.Q_base ho0) hb); have n1_ := Aside0.mk (Kd.V_elder' (by exact pV HO2_0.out) (by first | exact Kd.N_base ho0 | exact Kd.S_base ho0 | exact Kd.R_base ho0 | exact Kd.Q_base ho0) hb); have n2_ := Aside0.mk (Kd.V_elder' (by exact pV HO2_1.out) (by first | exact Kd.N_base ho0 | exact Kd.S_base ho0 | exact Kd.R_base ho0 | exact Kd.Q_base ho0) hb); have n3_ := Aside0.mk (Kd.V_elder' (by exact pV HO3_1.out) (by first | exact Kd.N_base ho0 | exact Kd.S_base ho0 | exact Kd.R_base ho0 | exact Kd.Q_base ho0) hb); have n4_ := Aside0.mk (Kd.N_lower (Kd.N_mono (ok' := fun k_ => ((P0_ k_ ∨ P2_0_ k_ ∨ P2_1_ k_ ∨ P3_1_ k_) ∨ w.heap.size ≤ k_) ∧ k_ ≠ gb418 ∧ k_ ≠ gb419) ho0 (fun k_ hk_ => ⟨Or.elim hk_ (fun hs_ => hs_.1.1) (fun hn_ => (.inr (Nat.le_trans (below_size (by exact pB HB.out)) hn_))), Or.elim hk_ (fun hs_ => hs_.1.2) (fun hn_ => (Kd.freshB (g := gb418) (o := .cells #[.slice A2_0 l2_0.length c2_0, .slice A2_1 l2_1.length c2_1] 24 (0, 0)) (by exact pK BK418.out) k_ hn_)), Or.elim hk_ (fun hs_ => hs_.2) (fun hn_ => (Kd.freshB (g := gb419) (o := .cells #[.int .i64 a3_0, .slice A3_1 l3_1.length c3_1] 43 (0, 0)) (by exact pK BK419.out) k_ hn_))⟩)) (below_size (by exact pB HB.out))); have n5_ := Aside0.mk (blk_below (g := gb418) (o := .cells #[.slice A2_0 l2_0.length c2_0, .slice A2_1 l2_1.length c2_1] 24 (0, 0)) (by exact pK BK418.out) hb); have n6_ := Aside0.mk (blk_below (g := gb419) (o := .cells #[.int .i64 a3_0, .slice A3_1 l3_1.length c3_1] 43 (0, 0)) (by exact pK BK419.out) hb); have n7_ := Aside0.mk (below_step (by exact pB HB.out) hb); clear HO0; clear HO2_0; clear HO2_1; clear HO3_1; clear BK418; clear BK419; clear HB; have HO0 := n0_; have HO2_0 := n1_; have HO2_1 := n2_; have HO3_1 := n3_; have HO422 := n4_; have BK418 := n5_; have BK419 := n6_; have HB := n7_; clear n0_ n1_ n2_ n3_ n4_ n5_ n6_ n7_; (try clear hb); (try clear hb2); (try clear hk); (try clear hi); (try clear ho0); have hnb11 := NB418_419.out; have hnc11 := NB419_418.out; have hcz12_0 : w10.cell? ⟨gb418, 0, none⟩ = some (.slice A2_0 l2_0.length c2_0) := (blk_cell BK418.out 0).trans rfl; have hcz12_1 : w10.cell? ⟨gb418, 1, none⟩ = some (.slice A2_1 l2_1.length c2_1) := (blk_cell BK418.out 1).trans rfl; have hfz12_0 := blk_frozen BK418.out 0; have hfz12_1 := blk_frozen BK418.out 1) | ((with_reducible refine gate_dst (N := 11) rfl ?_); refine box_event ?hg (N := 11) ?hd (cs := #[.slice none 0 0, .slice none 0 0]) (t := 24) ?hr ?_; (case hd => rfl); (case hg => rfl); (case hr => first | (go_simp; done) | (go_simp; rfl)); intro gb423 hg w13 hbox hb; have n0_ := Aside0.mk (Kd.V_below (Kd.V_elderB (by exact pV HO0.out) gb423 (Nat.le_of_eq hg.symm)) hb); have n1_ := Aside0.mk (Kd.V_below (Kd.V_elderB (by exact pV HO2_0.out) gb423 (Nat.le_of_eq hg.symm)) hb); have n2_ := Aside0.mk (Kd.V_below (Kd.V_elderB (by exact pV HO2_1.out) gb423 (Nat.le_of_eq hg.symm)) hb); have n3_ := Aside0.mk (Kd.V_below (Kd.V_elderB (by exact pV HO3_1.out) gb423 (Nat.le_of_eq hg.symm)) hb); have n4_ := Aside0.mk (Kd.N_below (Kd.N_elderB (by exact pN HO422.out) gb423 (Nat.le_of_eq hg.symm)) hb); have n5_ := Aside0.mk (blk_below (g := gb418) (o := .cells #[.slice A2_0 l2_0.length c2_0, .slice A2_1 l2_1.length c2_1] 24 (0, 0)) (by exact pK BK418.out) hb); have n6_ := Aside0.mk (blk_below (g := gb419) (o := .cells #[.int .i64 a3_0, .slice A3_1 l3_1.length c3_1] 43 (0, 0)) (by exact pK BK419.out) hb); have n7_ := Aside0.mk (below_step (by exact pB HB.out) hb); have n8_ := Aside0.mk (hbox); have n9_ := Aside0.mk ((by rw [hg]; exact (below_size (by exact pB HB.out)) : w.heap.size ≤ gb423)); have n10_ := Aside0.mk ((by rw [hg]; exact (below_size (by exact pB HB.out)) : w.heap.size ≤ gb423)); have n11_ := Aside0.mk ((by rw [hg]; exact Nat.ne_of_lt (blk_lt (g := gb418) (o := .cells #[.slice A2_0 l2_0.length c2_0, .slice A2_1 l2_1.length c2_1] 24 (0, 0)) (by exact pK BK418.out)) : gb418 ≠ gb423)); have n12_ := Aside0.mk ((by rw [hg]; exact Nat.ne_of_gt (blk_lt (g := gb418) (o := .cells #[.slice A2_0 l2_0.length c2_0, .slice A2_1 l2_1.length c2_1] 24 (0, 0)) (by exact pK BK418.out)) : gb423 ≠ gb418)); have n13_ := Aside0.mk ((by rw [hg]; exact Nat.ne_of_lt (blk_lt (g := gb419) (o := .cells #[.int .i64 a3_0, .slice A3_1 l3_1.length c3_1] 43 (0, 0)) (by exact pK BK419.out)) : gb419 ≠ gb423)); have n14_ := Aside0.mk ((by rw [hg]; exact Nat.ne_of_gt (blk_lt (g := gb419) (o := .cells #[.int .i64 a3_0, .slice A3_1 l3_1.length c3_1] 43 (0, 0)) (by exact pK BK419.out)) : gb423 ≠ gb419)); clear HO0; clear HO2_0; clear HO2_1; clear HO3_1; clear HO422; clear BK418; clear BK419; clear HB; have HO0 := n0_; have HO2_0 := n1_; have HO2_1 := n2_; have HO3_1 := n3_; have HO422 := n4_; have BK418 := n5_; have BK419 := n6_; have HB := n7_; have BK423 := n8_; have GW423 := n9_; have GE423 := n10_; have NB418_423 := n11_; have NB423_418 := n12_; have NB419_423 := n13_; have NB423_419 := n14_; clear n0_ n1_ n2_ n3_ n4_ n5_ n6_ n7_ n8_ n9_ n10_ n11_ n12_ n13_ n14_; clear hb hbox hg; have hnb14 := NB423_418.out; have hnc14 := NB418_423.out; have hnb15 := NB423_419.out; have hnc15 := NB419_423.out; have hcz16_0 : w13.cell? ⟨gb423, 0, none⟩ = some (.slice none 0 0) := (blk_cell BK423.out 0).trans rfl; have hcz16_1 : w13.cell? ⟨gb423, 1, none⟩ = some (.slice none 0 0) := (blk_cell BK423.out 1).trans rfl; have hfz16_0 := blk_frozen BK423.out 0; have hfz16_1 := blk_frozen BK423.out 1))
  (try simp only [Act.put, List.setIfInBounds_toArray, List.set_cons_zero, List.set_cons_succ])
  go_cut [] (fun wc => ∃ (kq : Nat) (x424000_6 : List Int) (x424001_6 : List Int) (u424000 : Value) (u424001 : Value), Aside0 (customslaw34_JournalOpen.j3 kq a3_0 l3_1 x424000_6 x424001_6 = some true) ∧ Aside0 (kq ≤ k) ∧ Aside0 (Kd.V (Kd.int .u8) 5 wc w.heap.size (fun k_ => ((P0_ k_ ∨ P2_0_ k_ ∨ P2_1_ k_ ∨ P3_1_ k_) ∨ w.heap.size ≤ k_) ∧ k_ ≠ gb418 ∧ k_ ≠ gb419 ∧ k_ ≠ gb423) (.slice A2_0 l2_0.length c2_0) l2_0) ∧ Aside0 (Kd.V (Kd.int .u8) 5 wc w.heap.size (fun k_ => ((P0_ k_ ∨ P2_0_ k_ ∨ P2_1_ k_ ∨ P3_1_ k_) ∨ w.heap.size ≤ k_) ∧ k_ ≠ gb418 ∧ k_ ≠ gb419 ∧ k_ ≠ gb423) (.slice A2_1 l2_1.length c2_1) l2_1) ∧ Aside0 (Kd.V (Kd.int .u8) 5 wc w.heap.size (fun k_ => ((P0_ k_ ∨ P2_0_ k_ ∨ P2_1_ k_ ∨ P3_1_ k_) ∨ w.heap.size ≤ k_) ∧ k_ ≠ gb418 ∧ k_ ≠ gb419 ∧ k_ ≠ gb423) (.slice A3_1 l3_1.length c3_1) l3_1) ∧ Aside0 (Kd.V (Kd.int .u8) 5 wc w.heap.size (fun k_ => ((P0_ k_ ∨ P2_0_ k_ ∨ P2_1_ k_ ∨ P3_1_ k_) ∨ w.heap.size ≤ k_) ∧ k_ ≠ gb418 ∧ k_ ≠ gb419 ∧ k_ ≠ gb423) u424000 x424000_6) ∧ Aside0 (Kd.V (Kd.int .u8) 5 wc w.heap.size (fun k_ => ((P0_ k_ ∨ P2_0_ k_ ∨ P2_1_ k_ ∨ P3_1_ k_) ∨ w.heap.size ≤ k_) ∧ k_ ≠ gb418 ∧ k_ ≠ gb419 ∧ k_ ≠ gb423) u424001 x424001_6) ∧ Aside0 (wc.heap[gb418]? = some (.cells #[(.slice A2_0 l2_0.length c2_0), (.slice A2_1 l2_1.length c2_1)] 24 (0, 0))) ∧ Aside0 (wc.heap[gb419]? = some (.cells #[.int .i64 a3_0, (.slice A3_1 l3_1.length c3_1)] 43 (0, 0))) ∧ Aside0 (wc.heap[gb423]? = some (.cells #[u424000, u424001] 24 (0, 0))) ∧ Aside0 (Below w.heap.size w wc))
  case first =>
    have H := HC7.out
    clear HC7
    by_cases c17 : a4 = true
    · subst c17
      have H1 : (customslaw34_JournalOpen.j3 k a3_0 l3_1 l2_0 l2_1) = some true := by rw [if_pos rfl] at H; exact H
      clear H
      have H := H1
      clear H1
      have H' := Aside0.mk H
      clear H
      go_wp2
      go_meet
      case rel => exact ⟨_, (l2_0), (l2_1), (.slice A2_0 l2_0.length c2_0), (.slice A2_1 l2_1.length c2_1), H', ⟨by first | omega | exact Nat.le_refl _⟩, ⟨by (with_reducible repeat (first | apply Kd.V_alloc | apply Kd.V_drewN | apply Kd.V_drew)); exact Kd.V_mono (Kd.V_far (p := ⟨gb423, 1, none⟩) (Kd.V_far (p := ⟨gb423, 0, none⟩) (Kd.V_mono HO2_0.out (fun k_ hk => (⟨hk, hk.2⟩ : _ ∧ k_ ≠ gb423))) (fun _ hk => hk.2) (.slice A2_0 l2_0.length c2_0)) (fun _ hk => hk.2) (.slice A2_1 l2_1.length c2_1)) (fun _ hk => ⟨hk.1.1.1.1.1, ⟨hk.1.1.1.1.2, ⟨hk.1.1.1.2, hk.1.2⟩⟩⟩)⟩, ⟨by (with_reducible repeat (first | apply Kd.V_alloc | apply Kd.V_drewN | apply Kd.V_drew)); exact Kd.V_mono (Kd.V_far (p := ⟨gb423, 1, none⟩) (Kd.V_far (p := ⟨gb423, 0, none⟩) (Kd.V_mono HO2_1.out (fun k_ hk => (⟨hk, hk.2⟩ : _ ∧ k_ ≠ gb423))) (fun _ hk => hk.2) (.slice A2_0 l2_0.length c2_0)) (fun _ hk => hk.2) (.slice A2_1 l2_1.length c2_1)) (fun _ hk => ⟨hk.1.1.1.1.1, ⟨hk.1.1.1.1.2, ⟨hk.1.1.1.2, hk.1.2⟩⟩⟩)⟩, ⟨by (with_reducible repeat (first | apply Kd.V_alloc | apply Kd.V_drewN | apply Kd.V_drew)); exact Kd.V_mono (Kd.V_far (p := ⟨gb423, 1, none⟩) (Kd.V_far (p := ⟨gb423, 0, none⟩) (Kd.V_mono HO3_1.out (fun k_ hk => (⟨hk, hk.2⟩ : _ ∧ k_ ≠ gb423))) (fun _ hk => hk.2) (.slice A2_0 l2_0.length c2_0)) (fun _ hk => hk.2) (.slice A2_1 l2_1.length c2_1)) (fun _ hk => ⟨hk.1.1.1.1.1, ⟨hk.1.1.1.1.2, ⟨hk.1.1.1.2, hk.1.2⟩⟩⟩)⟩, ⟨by (with_reducible repeat (first | apply Kd.V_alloc | apply Kd.V_drewN | apply Kd.V_drew)); exact Kd.V_mono (Kd.V_far (p := ⟨gb423, 1, none⟩) (Kd.V_far (p := ⟨gb423, 0, none⟩) (Kd.V_mono HO2_0.out (fun k_ hk => (⟨hk, hk.2⟩ : _ ∧ k_ ≠ gb423))) (fun _ hk => hk.2) (.slice A2_0 l2_0.length c2_0)) (fun _ hk => hk.2) (.slice A2_1 l2_1.length c2_1)) (fun _ hk => ⟨hk.1.1.1.1.1, ⟨hk.1.1.1.1.2, ⟨hk.1.1.1.2, hk.1.2⟩⟩⟩)⟩, ⟨by (with_reducible repeat (first | apply Kd.V_alloc | apply Kd.V_drewN | apply Kd.V_drew)); exact Kd.V_mono (Kd.V_far (p := ⟨gb423, 1, none⟩) (Kd.V_far (p := ⟨gb423, 0, none⟩) (Kd.V_mono HO2_1.out (fun k_ hk => (⟨hk, hk.2⟩ : _ ∧ k_ ≠ gb423))) (fun _ hk => hk.2) (.slice A2_0 l2_0.length c2_0)) (fun _ hk => hk.2) (.slice A2_1 l2_1.length c2_1)) (fun _ hk => ⟨hk.1.1.1.1.1, ⟨hk.1.1.1.1.2, ⟨hk.1.1.1.2, hk.1.2⟩⟩⟩)⟩, ⟨by (with_reducible repeat (first | refine blk_drewN ?_ _ | refine blk_drew ?_ | refine blk_alloc ?_ _)); refine blk_far ?_ NB418_423.out _; (with_reducible repeat (first | refine blk_drewN ?_ _ | refine blk_drew ?_ | refine blk_alloc ?_ _)); refine blk_far ?_ NB418_423.out _; (with_reducible repeat (first | refine blk_drewN ?_ _ | refine blk_drew ?_ | refine blk_alloc ?_ _)); exact BK418.out⟩, ⟨by (with_reducible repeat (first | refine blk_drewN ?_ _ | refine blk_drew ?_ | refine blk_alloc ?_ _)); refine blk_far ?_ NB419_423.out _; (with_reducible repeat (first | refine blk_drewN ?_ _ | refine blk_drew ?_ | refine blk_alloc ?_ _)); refine blk_far ?_ NB419_423.out _; (with_reducible repeat (first | refine blk_drewN ?_ _ | refine blk_drew ?_ | refine blk_alloc ?_ _)); exact BK419.out⟩, ⟨by (with_reducible repeat (first | refine blk_drewN ?_ _ | refine blk_drew ?_ | refine blk_alloc ?_ _)); refine blk_put (cs := #[.slice A2_0 l2_0.length c2_0, .slice none 0 0]) ?_ 1 _ rfl; (with_reducible repeat (first | refine blk_drewN ?_ _ | refine blk_drew ?_ | refine blk_alloc ?_ _)); refine blk_put (cs := #[.slice none 0 0, .slice none 0 0]) ?_ 0 _ rfl; (with_reducible repeat (first | refine blk_drewN ?_ _ | refine blk_drew ?_ | refine blk_alloc ?_ _)); exact BK423.out⟩, ⟨by repeat (first | (with_reducible first | exact HB.out | apply below_alloc | apply pw_below_drewN | apply below_drew1 | refine below_set ?_ GE418.out | refine below_set ?_ GE419.out | refine below_set ?_ GE423.out) | exact HB.out)⟩⟩
    · replace c17 := Bool.eq_false_iff.mpr c17
      subst c17
      have H1 : (customslaw34_JournalOpen.l0 k t420 l1 0 a3_0 l3_1 ([] : List Int) ([] : List Int)) = some true := by rw [if_neg (show ¬ (false = true) by decide)] at H; exact H
      clear H
      have H := H1
      clear H1
      have H' := Aside0.mk H
      clear H
      have hnb18 := NB423_418.out
      have hnc18 := NB418_423.out
      have hnb19 := NB423_419.out
      have hnc19 := NB419_423.out
      have hcz20_0 : w13.cell? ⟨gb423, 0, none⟩ = some (.slice none 0 0) := (blk_cell BK423.out 0).trans rfl
      have hcz20_1 : w13.cell? ⟨gb423, 1, none⟩ = some (.slice none 0 0) := (blk_cell BK423.out 1).trans rfl
      have hfz20_0 := blk_frozen BK423.out 0
      have hfz20_1 := blk_frozen BK423.out 1
      go_wp2
      go_loopg [12] k (fun kq v12 w' => ∃ (x12_1 : Int) (x424000_1 : List Int) (x424001_1 : List Int) (u424000 : Value) (u424001 : Value), v12 = .int .i64 x12_1 ∧ Aside0 (customslaw34_JournalOpen.l0 kq t420 l1 x12_1 a3_0 l3_1 x424000_1 x424001_1 = some true) ∧ Aside0 (kq ≤ k) ∧ Aside0 (Kd.N (Kd.slice 5 (Kd.int .u8)) 22 w' w.heap.size (fun k_ => ((P0_ k_ ∨ P2_0_ k_ ∨ P2_1_ k_ ∨ P3_1_ k_) ∨ w.heap.size ≤ k_) ∧ some k_ ≠ (u424001 : Value).ownBlock ∧ k_ ≠ gb418 ∧ k_ ≠ gb419 ∧ k_ ≠ gb423) v421 t420) ∧ Aside0 (Kd.V (Kd.int .u8) 5 w' w.heap.size (fun k_ => ((P0_ k_ ∨ P2_0_ k_ ∨ P2_1_ k_ ∨ P3_1_ k_) ∨ w.heap.size ≤ k_) ∧ some k_ ≠ (v421 : Value).ownBlock ∧ some k_ ≠ (u424001 : Value).ownBlock ∧ k_ ≠ gb418 ∧ k_ ≠ gb419 ∧ k_ ≠ gb423) (.slice A2_0 l2_0.length c2_0) l2_0) ∧ Aside0 (Kd.V (Kd.int .u8) 5 w' w.heap.size (fun k_ => ((P0_ k_ ∨ P2_0_ k_ ∨ P2_1_ k_ ∨ P3_1_ k_) ∨ w.heap.size ≤ k_) ∧ some k_ ≠ (v421 : Value).ownBlock ∧ some k_ ≠ (u424001 : Value).ownBlock ∧ k_ ≠ gb418 ∧ k_ ≠ gb419 ∧ k_ ≠ gb423) (.slice A2_1 l2_1.length c2_1) l2_1) ∧ Aside0 (Kd.V (Kd.int .u8) 5 w' w.heap.size (fun k_ => ((P0_ k_ ∨ P2_0_ k_ ∨ P2_1_ k_ ∨ P3_1_ k_) ∨ w.heap.size ≤ k_) ∧ some k_ ≠ (v421 : Value).ownBlock ∧ some k_ ≠ (u424001 : Value).ownBlock ∧ k_ ≠ gb418 ∧ k_ ≠ gb419 ∧ k_ ≠ gb423) (.slice A3_1 l3_1.length c3_1) l3_1) ∧ Aside0 (Kd.V (Kd.int .u8) 5 w' w.heap.size (fun k_ => ((P0_ k_ ∨ P2_0_ k_ ∨ P2_1_ k_ ∨ P3_1_ k_) ∨ w.heap.size ≤ k_) ∧ some k_ ≠ (v421 : Value).ownBlock ∧ some k_ ≠ (u424001 : Value).ownBlock ∧ k_ ≠ gb418 ∧ k_ ≠ gb419 ∧ k_ ≠ gb423) u424000 x424000_1) ∧ Aside0 (Kd.R (Kd.int .u8) 5 w' w.heap.size (fun k_ => (w.heap.size ≤ k_)) u424001 x424001_1) ∧ Aside0 (w'.heap[gb418]? = some (.cells #[(.slice A2_0 l2_0.length c2_0), (.slice A2_1 l2_1.length c2_1)] 24 (0, 0))) ∧ Aside0 (w'.heap[gb419]? = some (.cells #[.int .i64 a3_0, (.slice A3_1 l3_1.length c3_1)] 43 (0, 0))) ∧ Aside0 (w'.heap[gb423]? = some (.cells #[u424000, u424001] 24 (0, 0))) ∧ Aside0 (Below w.heap.size w w'))
      case atStart => exact ⟨(0), (([] : List Int)), (([] : List Int)), (.slice none 0 0), (.slice none 0 0), (by first | rfl | (simp; done) | (simp [*]; done)), H', ⟨Nat.le_refl _⟩, ⟨by (with_reducible repeat (first | apply Kd.N_alloc | apply Kd.N_drewN | apply Kd.N_drew)); exact Kd.N_mono (Kd.N_far (p := ⟨gb423, 1, none⟩) (Kd.N_far (p := ⟨gb423, 0, none⟩) (Kd.N_far (p := ⟨gb423, 1, none⟩) (Kd.N_far (p := ⟨gb423, 0, none⟩) (Kd.N_mono HO422.out (fun k_ hk => (⟨hk, hk.2⟩ : _ ∧ k_ ≠ gb423))) (fun _ hk => hk.2) (.slice A2_0 l2_0.length c2_0)) (fun _ hk => hk.2) (.slice A2_1 l2_1.length c2_1)) (fun _ hk => hk.2) (.slice none 0 0)) (fun _ hk => hk.2) (.slice none 0 0)) (fun _ hk => ⟨hk.1.1.1, ⟨(by simp [Value.ownBlock]), ⟨hk.1.1.2.1, ⟨hk.1.1.2.2, hk.1.2⟩⟩⟩⟩)⟩, ⟨by (with_reducible repeat (first | apply Kd.V_alloc | apply Kd.V_drewN | apply Kd.V_drew)); exact Kd.V_mono (Kd.V_far (p := ⟨gb423, 1, none⟩) (Kd.V_far (p := ⟨gb423, 0, none⟩) (Kd.V_far (p := ⟨gb423, 1, none⟩) (Kd.V_far (p := ⟨gb423, 0, none⟩) (Kd.V_mono HO2_0.out (fun k_ hk => (⟨hk, hk.2⟩ : _ ∧ k_ ≠ gb423))) (fun _ hk => hk.2) (.slice A2_0 l2_0.length c2_0)) (fun _ hk => hk.2) (.slice A2_1 l2_1.length c2_1)) (fun _ hk => hk.2) (.slice none 0 0)) (fun _ hk => hk.2) (.slice none 0 0)) (fun _ hk => ⟨hk.1.1.1.1.1, ⟨hk.1.1.2, ⟨(by simp [Value.ownBlock]), ⟨hk.1.1.1.1.2, ⟨hk.1.1.1.2, hk.1.2⟩⟩⟩⟩⟩)⟩, ⟨by (with_reducible repeat (first | apply Kd.V_alloc | apply Kd.V_drewN | apply Kd.V_drew)); exact Kd.V_mono (Kd.V_far (p := ⟨gb423, 1, none⟩) (Kd.V_far (p := ⟨gb423, 0, none⟩) (Kd.V_far (p := ⟨gb423, 1, none⟩) (Kd.V_far (p := ⟨gb423, 0, none⟩) (Kd.V_mono HO2_1.out (fun k_ hk => (⟨hk, hk.2⟩ : _ ∧ k_ ≠ gb423))) (fun _ hk => hk.2) (.slice A2_0 l2_0.length c2_0)) (fun _ hk => hk.2) (.slice A2_1 l2_1.length c2_1)) (fun _ hk => hk.2) (.slice none 0 0)) (fun _ hk => hk.2) (.slice none 0 0)) (fun _ hk => ⟨hk.1.1.1.1.1, ⟨hk.1.1.2, ⟨(by simp [Value.ownBlock]), ⟨hk.1.1.1.1.2, ⟨hk.1.1.1.2, hk.1.2⟩⟩⟩⟩⟩)⟩, ⟨by (with_reducible repeat (first | apply Kd.V_alloc | apply Kd.V_drewN | apply Kd.V_drew)); exact Kd.V_mono (Kd.V_far (p := ⟨gb423, 1, none⟩) (Kd.V_far (p := ⟨gb423, 0, none⟩) (Kd.V_far (p := ⟨gb423, 1, none⟩) (Kd.V_far (p := ⟨gb423, 0, none⟩) (Kd.V_mono HO3_1.out (fun k_ hk => (⟨hk, hk.2⟩ : _ ∧ k_ ≠ gb423))) (fun _ hk => hk.2) (.slice A2_0 l2_0.length c2_0)) (fun _ hk => hk.2) (.slice A2_1 l2_1.length c2_1)) (fun _ hk => hk.2) (.slice none 0 0)) (fun _ hk => hk.2) (.slice none 0 0)) (fun _ hk => ⟨hk.1.1.1.1.1, ⟨hk.1.1.2, ⟨(by simp [Value.ownBlock]), ⟨hk.1.1.1.1.2, ⟨hk.1.1.1.2, hk.1.2⟩⟩⟩⟩⟩)⟩, ⟨by first | exact Kd.R_nil _ _ _ _ _ | exact Kd.N_nil _ _ _ _ _ | exact Kd.V_nil _ _ _ _ _ | exact Kd.Q_nil _ _ _ _ _ | exact Kd.S_nil _ _ _ _ _⟩, ⟨by first | exact Kd.R_nil _ _ _ _ _ | exact Kd.N_nil _ _ _ _ _ | exact Kd.V_nil _ _ _ _ _ | exact Kd.Q_nil _ _ _ _ _ | exact Kd.S_nil _ _ _ _ _⟩, ⟨by (with_reducible repeat (first | refine blk_drewN ?_ _ | refine blk_drew ?_ | refine blk_alloc ?_ _)); refine blk_far ?_ NB418_423.out _; (with_reducible repeat (first | refine blk_drewN ?_ _ | refine blk_drew ?_ | refine blk_alloc ?_ _)); refine blk_far ?_ NB418_423.out _; (with_reducible repeat (first | refine blk_drewN ?_ _ | refine blk_drew ?_ | refine blk_alloc ?_ _)); refine blk_far ?_ NB418_423.out _; (with_reducible repeat (first | refine blk_drewN ?_ _ | refine blk_drew ?_ | refine blk_alloc ?_ _)); refine blk_far ?_ NB418_423.out _; (with_reducible repeat (first | refine blk_drewN ?_ _ | refine blk_drew ?_ | refine blk_alloc ?_ _)); exact BK418.out⟩, ⟨by (with_reducible repeat (first | refine blk_drewN ?_ _ | refine blk_drew ?_ | refine blk_alloc ?_ _)); refine blk_far ?_ NB419_423.out _; (with_reducible repeat (first | refine blk_drewN ?_ _ | refine blk_drew ?_ | refine blk_alloc ?_ _)); refine blk_far ?_ NB419_423.out _; (with_reducible repeat (first | refine blk_drewN ?_ _ | refine blk_drew ?_ | refine blk_alloc ?_ _)); refine blk_far ?_ NB419_423.out _; (with_reducible repeat (first | refine blk_drewN ?_ _ | refine blk_drew ?_ | refine blk_alloc ?_ _)); refine blk_far ?_ NB419_423.out _; (with_reducible repeat (first | refine blk_drewN ?_ _ | refine blk_drew ?_ | refine blk_alloc ?_ _)); exact BK419.out⟩, ⟨by (with_reducible repeat (first | refine blk_drewN ?_ _ | refine blk_drew ?_ | refine blk_alloc ?_ _)); refine blk_put (cs := #[.slice none 0 0, .slice A2_1 l2_1.length c2_1]) ?_ 1 _ rfl; (with_reducible repeat (first | refine blk_drewN ?_ _ | refine blk_drew ?_ | refine blk_alloc ?_ _)); refine blk_put (cs := #[.slice A2_0 l2_0.length c2_0, .slice A2_1 l2_1.length c2_1]) ?_ 0 _ rfl; (with_reducible repeat (first | refine blk_drewN ?_ _ | refine blk_drew ?_ | refine blk_alloc ?_ _)); refine blk_put (cs := #[.slice A2_0 l2_0.length c2_0, .slice none 0 0]) ?_ 1 _ rfl; (with_reducible repeat (first | refine blk_drewN ?_ _ | refine blk_drew ?_ | refine blk_alloc ?_ _)); refine blk_put (cs := #[.slice none 0 0, .slice none 0 0]) ?_ 0 _ rfl; (with_reducible repeat (first | refine blk_drewN ?_ _ | refine blk_drew ?_ | refine blk_alloc ?_ _)); exact BK423.out⟩, ⟨by repeat (first | (with_reducible first | exact HB.out | apply below_alloc | apply pw_below_drewN | apply below_drew1 | refine below_set ?_ GE418.out | refine below_set ?_ GE419.out | refine below_set ?_ GE423.out) | exact HB.out)⟩⟩
      case round =>
        clear H'
        try clear c1
        try clear c2
        try clear p2
        try clear c3
        try clear c9
        try clear c11
        try clear c14
        try clear c15
        try clear c17
        try clear c18
        try clear c19
        try clear hcz12_0
        try clear hcz12_1
        try clear hcz16_0
        try clear hcz16_1
        try clear hcz20_0
        try clear hcz20_1
        try clear hfz12_0
        try clear hfz12_1
        try clear hfz16_0
        try clear hfz16_1
        try clear hfz20_0
        try clear hfz20_1
        obtain ⟨x12_1, x424000_1, x424001_1, u424000, u424001, rfl, HA, HK1, HO_0, HO_419000, HO_419001, HO_420001, HO_424000, HO_424001, BK418, BK419, BK423, HB⟩ := hrel
        cases gk with
        | zero => exact absurd HA.out (by simp [customslaw34_JournalOpen.l0])
        | succ k1 =>
          have H := HA.out
          clear HA
          simp only [customslaw34_JournalOpen.l0] at H
          by_cases c21 : x12_1 < (t420.length : Int)
          · rw [if_pos c21] at H
            have c21b0 : decide (x12_1 < (t420.length : Int)) = true := decide_eq_true c21
            clear c21
            (first | rw [c21b0] | (simp only [i64_w, i32_w]; rw [c21b0]) | skip)
            have HC22 := Aside0.mk H
            clear H
            obtain ⟨Ao23, co23, eo23⟩ := Kd.N_slice HO_0.out
            subst eo23
            go_upto_region 9 with (fail)
            go_cut [51] (fun v51 wc => ∃ (kq : Nat) (x51_21 : Bool), v51 = .bool x51_21 ∧ Aside0 (customslaw34_JournalOpen.j1 kq t420 l1 x12_1 1 x51_21 a3_0 l3_1 x424000_1 x424001_1 = some true) ∧ Aside0 (kq ≤ k1) ∧ Aside0 (Kd.N (Kd.slice 5 (Kd.int .u8)) 22 wc w.heap.size (fun k_ => ((P0_ k_ ∨ P2_0_ k_ ∨ P2_1_ k_ ∨ P3_1_ k_) ∨ w.heap.size ≤ k_) ∧ some k_ ≠ (u424001 : Value).ownBlock ∧ k_ ≠ gb418 ∧ k_ ≠ gb419 ∧ k_ ≠ gb423) (.slice Ao23 t420.length co23) t420) ∧ Aside0 (Kd.V (Kd.int .u8) 5 wc w.heap.size (fun k_ => ((P0_ k_ ∨ P2_0_ k_ ∨ P2_1_ k_ ∨ P3_1_ k_) ∨ w.heap.size ≤ k_) ∧ some k_ ≠ ((.slice Ao23 t420.length co23) : Value).ownBlock ∧ some k_ ≠ (u424001 : Value).ownBlock ∧ k_ ≠ gb418 ∧ k_ ≠ gb419 ∧ k_ ≠ gb423) (.slice A2_0 l2_0.length c2_0) l2_0) ∧ Aside0 (Kd.V (Kd.int .u8) 5 wc w.heap.size (fun k_ => ((P0_ k_ ∨ P2_0_ k_ ∨ P2_1_ k_ ∨ P3_1_ k_) ∨ w.heap.size ≤ k_) ∧ some k_ ≠ ((.slice Ao23 t420.length co23) : Value).ownBlock ∧ some k_ ≠ (u424001 : Value).ownBlock ∧ k_ ≠ gb418 ∧ k_ ≠ gb419 ∧ k_ ≠ gb423) (.slice A2_1 l2_1.length c2_1) l2_1) ∧ Aside0 (Kd.V (Kd.int .u8) 5 wc w.heap.size (fun k_ => ((P0_ k_ ∨ P2_0_ k_ ∨ P2_1_ k_ ∨ P3_1_ k_) ∨ w.heap.size ≤ k_) ∧ some k_ ≠ ((.slice Ao23 t420.length co23) : Value).ownBlock ∧ some k_ ≠ (u424001 : Value).ownBlock ∧ k_ ≠ gb418 ∧ k_ ≠ gb419 ∧ k_ ≠ gb423) (.slice A3_1 l3_1.length c3_1) l3_1) ∧ Aside0 (Kd.V (Kd.int .u8) 5 wc w.heap.size (fun k_ => ((P0_ k_ ∨ P2_0_ k_ ∨ P2_1_ k_ ∨ P3_1_ k_) ∨ w.heap.size ≤ k_) ∧ some k_ ≠ ((.slice Ao23 t420.length co23) : Value).ownBlock ∧ some k_ ≠ (u424001 : Value).ownBlock ∧ k_ ≠ gb418 ∧ k_ ≠ gb419 ∧ k_ ≠ gb423) u424000 x424000_1) ∧ Aside0 (Kd.R (Kd.int .u8) 5 wc w.heap.size (fun k_ => (w.heap.size ≤ k_)) u424001 x424001_1) ∧ Aside0 (wc.heap[gb418]? = some (.cells #[(.slice A2_0 l2_0.length c2_0), (.slice A2_1 l2_1.length c2_1)] 24 (0, 0))) ∧ Aside0 (wc.heap[gb419]? = some (.cells #[.int .i64 a3_0, (.slice A3_1 l3_1.length c3_1)] 43 (0, 0))) ∧ Aside0 (wc.heap[gb423]? = some (.cells #[u424000, u424001] 24 (0, 0))) ∧ Aside0 (Below w.heap.size w wc))
            case first =>
              have H := HC22.out
              clear HC22
              by_cases c24 : x12_1 < (l1.length : Int)
              · rw [if_pos c24] at H
                have c24b0 : decide (x12_1 < (l1.length : Int)) = true := decide_eq_true c24
                clear c24
                (first | rw [c24b0] | (simp only [i64_w, i32_w]; rw [c24b0]) | skip)
                have c25 : 0 ≤ x12_1 := by
                  refine Classical.byContradiction fun c25 => ?_
                  rw [if_neg c25] at H
                  exact absurd H (by simp)
                rw [if_pos c25] at H
                have c25b0 : decide (0 ≤ x12_1) = true := decide_eq_true c25
                clear c25
                have H' := Aside0.mk H
                clear H
                have p424 : 0 ≤ (x12_1 : Int) := of_decide_eq_true (by first | (with_reducible assumption) | assumption)
                have q424 : x12_1 < (l1.length : Int) := of_decide_eq_true (by first | (with_reducible assumption) | assumption)
                obtain ⟨ad424, e424, hx424_0⟩ := Kd.at_bool HR1.out x12_1 p424 q424
                cases e424
                replace hx424_0 := (HB.out.cell (World.block_lt_of_cell? w _ hx424_0)).trans hx424_0
                replace p424 := eq_true p424
                replace q424 := eq_true q424
                go_wp2
                go_meet
                case rel => exact ⟨_, (rdOf false l1 x12_1), (by first | rfl | (simp; done) | (simp [*]; done)), H', ⟨by have := HK1.out; first | omega | exact Nat.le_refl _⟩, ⟨by exact pN HO_0.out⟩, ⟨by exact pV HO_419000.out⟩, ⟨by exact pV HO_419001.out⟩, ⟨by exact pV HO_420001.out⟩, ⟨by exact pV HO_424000.out⟩, ⟨by exact pR HO_424001.out⟩, ⟨by exact pK BK418.out⟩, ⟨by exact pK BK419.out⟩, ⟨by exact pK BK423.out⟩, ⟨by exact pB HB.out⟩⟩
              · rw [if_neg c24] at H
                have c24b0 : decide (x12_1 < (l1.length : Int)) = false := decide_eq_false c24
                clear c24
                (first | rw [c24b0] | (simp only [i64_w, i32_w]; rw [c24b0]) | skip)
                have H' := Aside0.mk H
                clear H
                go_wp2
                go_meet
                case rel => exact ⟨_, (false), (by first | rfl | (simp; done) | (simp [*]; done)), H', ⟨by have := HK1.out; first | omega | exact Nat.le_refl _⟩, ⟨by exact pN HO_0.out⟩, ⟨by exact pV HO_419000.out⟩, ⟨by exact pV HO_419001.out⟩, ⟨by exact pV HO_420001.out⟩, ⟨by exact pV HO_424000.out⟩, ⟨by exact pR HO_424001.out⟩, ⟨by exact pK BK418.out⟩, ⟨by exact pK BK419.out⟩, ⟨by exact pK BK423.out⟩, ⟨by exact pB HB.out⟩⟩
            case rest =>
              clear HC22
              try clear c1
              try clear c2
              try clear p2
              try clear c3
              try clear p4
              try clear q4
              try clear hx4
              try clear c9
              try clear c11
              try clear c14
              try clear c15
              try clear c17
              try clear c18
              try clear c19
              try clear c21
              try clear c21b0
              try clear c24
              try clear c24b0
              try clear c25
              try clear c25b0
              try clear hcz12_0
              try clear hcz12_1
              try clear hcz16_0
              try clear hcz16_1
              try clear hcz20_0
              try clear hcz20_1
              try clear hfz12_0
              try clear hfz12_1
              try clear hfz16_0
              try clear hfz16_1
              try clear hfz20_0
              try clear hfz20_1
              try clear hx424_0
              try clear p2
              try clear p424
              try clear q424
              obtain ⟨kq, x51_21, rfl, HA, HJ21, HO_0, HO_419000, HO_419001, HO_420001, HO_424000, HO_424001, BK418, BK419, BK423, HB⟩ := hcut
              cases kq with
              | zero => exact absurd HA.out (by simp [customslaw34_JournalOpen.j1])
              | succ kj21 =>
                have H := HA.out
                clear HA
                simp only [customslaw34_JournalOpen.j1] at H
                have HC26 := Aside0.mk H
                clear H
                go_upto_if 51 with (fail)
                go_cut [13] (fun v13 wc => ∃ (kq : Nat) (x13_25 : Int), v13 = .int .i64 x13_25 ∧ Aside0 (customslaw34_JournalOpen.j2 kq t420 l1 x12_1 x13_25 a3_0 l3_1 x424000_1 x424001_1 = some true) ∧ Aside0 (kq ≤ kj21) ∧ Aside0 (Kd.N (Kd.slice 5 (Kd.int .u8)) 22 wc w.heap.size (fun k_ => ((P0_ k_ ∨ P2_0_ k_ ∨ P2_1_ k_ ∨ P3_1_ k_) ∨ w.heap.size ≤ k_) ∧ some k_ ≠ (u424001 : Value).ownBlock ∧ k_ ≠ gb418 ∧ k_ ≠ gb419 ∧ k_ ≠ gb423) (.slice Ao23 t420.length co23) t420) ∧ Aside0 (Kd.V (Kd.int .u8) 5 wc w.heap.size (fun k_ => ((P0_ k_ ∨ P2_0_ k_ ∨ P2_1_ k_ ∨ P3_1_ k_) ∨ w.heap.size ≤ k_) ∧ some k_ ≠ ((.slice Ao23 t420.length co23) : Value).ownBlock ∧ some k_ ≠ (u424001 : Value).ownBlock ∧ k_ ≠ gb418 ∧ k_ ≠ gb419 ∧ k_ ≠ gb423) (.slice A2_0 l2_0.length c2_0) l2_0) ∧ Aside0 (Kd.V (Kd.int .u8) 5 wc w.heap.size (fun k_ => ((P0_ k_ ∨ P2_0_ k_ ∨ P2_1_ k_ ∨ P3_1_ k_) ∨ w.heap.size ≤ k_) ∧ some k_ ≠ ((.slice Ao23 t420.length co23) : Value).ownBlock ∧ some k_ ≠ (u424001 : Value).ownBlock ∧ k_ ≠ gb418 ∧ k_ ≠ gb419 ∧ k_ ≠ gb423) (.slice A2_1 l2_1.length c2_1) l2_1) ∧ Aside0 (Kd.V (Kd.int .u8) 5 wc w.heap.size (fun k_ => ((P0_ k_ ∨ P2_0_ k_ ∨ P2_1_ k_ ∨ P3_1_ k_) ∨ w.heap.size ≤ k_) ∧ some k_ ≠ ((.slice Ao23 t420.length co23) : Value).ownBlock ∧ some k_ ≠ (u424001 : Value).ownBlock ∧ k_ ≠ gb418 ∧ k_ ≠ gb419 ∧ k_ ≠ gb423) (.slice A3_1 l3_1.length c3_1) l3_1) ∧ Aside0 (Kd.V (Kd.int .u8) 5 wc w.heap.size (fun k_ => ((P0_ k_ ∨ P2_0_ k_ ∨ P2_1_ k_ ∨ P3_1_ k_) ∨ w.heap.size ≤ k_) ∧ some k_ ≠ ((.slice Ao23 t420.length co23) : Value).ownBlock ∧ some k_ ≠ (u424001 : Value).ownBlock ∧ k_ ≠ gb418 ∧ k_ ≠ gb419 ∧ k_ ≠ gb423) u424000 x424000_1) ∧ Aside0 (Kd.R (Kd.int .u8) 5 wc w.heap.size (fun k_ => (w.heap.size ≤ k_)) u424001 x424001_1) ∧ Aside0 (wc.heap[gb418]? = some (.cells #[(.slice A2_0 l2_0.length c2_0), (.slice A2_1 l2_1.length c2_1)] 24 (0, 0))) ∧ Aside0 (wc.heap[gb419]? = some (.cells #[.int .i64 a3_0, (.slice A3_1 l3_1.length c3_1)] 43 (0, 0))) ∧ Aside0 (wc.heap[gb423]? = some (.cells #[u424000, u424001] 24 (0, 0))) ∧ Aside0 (Below w.heap.size w wc))
                case first =>
                  have H := HC26.out
                  clear HC26
                  by_cases c27 : x51_21 = true
                  · subst c27
                    have H1 : (customslaw34_JournalOpen.j2 kj21 t420 l1 x12_1 2 a3_0 l3_1 x424000_1 x424001_1) = some true := by rw [if_pos rfl] at H; exact H
                    clear H
                    have H := H1
                    clear H1
                    have H' := Aside0.mk H
                    clear H
                    go_wp2
                    go_meet
                    case rel => exact ⟨_, (2), (by first | rfl | (simp; done) | (simp [*]; done)), H', ⟨by have := HK1.out; have := HJ21.out; first | omega | exact Nat.le_refl _⟩, ⟨by exact pN HO_0.out⟩, ⟨by exact pV HO_419000.out⟩, ⟨by exact pV HO_419001.out⟩, ⟨by exact pV HO_420001.out⟩, ⟨by exact pV HO_424000.out⟩, ⟨by exact pR HO_424001.out⟩, ⟨by exact pK BK418.out⟩, ⟨by exact pK BK419.out⟩, ⟨by exact pK BK423.out⟩, ⟨by exact pB HB.out⟩⟩
                  · replace c27 := Bool.eq_false_iff.mpr c27
                    subst c27
                    have H1 : (customslaw34_JournalOpen.j2 kj21 t420 l1 x12_1 1 a3_0 l3_1 x424000_1 x424001_1) = some true := by rw [if_neg (show ¬ (false = true) by decide)] at H; exact H
                    clear H
                    have H := H1
                    clear H1
                    have H' := Aside0.mk H
                    clear H
                    go_wp2
                    go_meet
                    case rel => exact ⟨_, (1), (by first | rfl | (simp; done) | (simp [*]; done)), H', ⟨by have := HK1.out; have := HJ21.out; first | omega | exact Nat.le_refl _⟩, ⟨by exact pN HO_0.out⟩, ⟨by exact pV HO_419000.out⟩, ⟨by exact pV HO_419001.out⟩, ⟨by exact pV HO_420001.out⟩, ⟨by exact pV HO_424000.out⟩, ⟨by exact pR HO_424001.out⟩, ⟨by exact pK BK418.out⟩, ⟨by exact pK BK419.out⟩, ⟨by exact pK BK423.out⟩, ⟨by exact pB HB.out⟩⟩
                case rest =>
                  clear HC26
                  try clear c1
                  try clear c2
                  try clear p2
                  try clear c3
                  try clear p4
                  try clear q4
                  try clear hx4
                  try clear c9
                  try clear c11
                  try clear c14
                  try clear c15
                  try clear c17
                  try clear c18
                  try clear c19
                  try clear c21
                  try clear c21b0
                  try clear c24
                  try clear c24b0
                  try clear c25
                  try clear c25b0
                  try clear c27
                  try clear hcz12_0
                  try clear hcz12_1
                  try clear hcz16_0
                  try clear hcz16_1
                  try clear hcz20_0
                  try clear hcz20_1
                  try clear hfz12_0
                  try clear hfz12_1
                  try clear hfz16_0
                  try clear hfz16_1
                  try clear hfz20_0
                  try clear hfz20_1
                  try clear hx424_0
                  try clear p2
                  try clear p4
                  try clear p424
                  try clear q4
                  try clear q424
                  obtain ⟨kq, x13_25, rfl, HA, HJ25, HO_0, HO_419000, HO_419001, HO_420001, HO_424000, HO_424001, BK418, BK419, BK423, HB⟩ := hcut
                  cases kq with
                  | zero => exact absurd HA.out (by simp [customslaw34_JournalOpen.j2])
                  | succ kj25 =>
                    have H := HA.out
                    clear HA
                    simp only [customslaw34_JournalOpen.j2] at H
                    have c28 : 0 ≤ x12_1 := by
                      refine Classical.byContradiction fun c28 => ?_
                      rw [if_neg c28] at H
                      exact absurd H (by simp)
                    rw [if_pos c28] at H
                    have c28b0 : decide (0 ≤ x12_1) = true := decide_eq_true c28
                    clear c28
                    have c29 : x12_1 < (t420.length : Int) := by
                      refine Classical.byContradiction fun c29 => ?_
                      rw [if_neg c29] at H
                      exact absurd H (by simp)
                    rw [if_pos c29] at H
                    have c29b0 : decide (x12_1 < (t420.length : Int)) = true := decide_eq_true c29
                    clear c29
                    replace H := Option.bind_eq_some_iff.mp H
                    obtain ⟨⟨t426, t429, t432⟩, A300, H⟩ := H
                    replace H : (if (Int.tmod x12_1 3) = 1 then ((customsref33_Sync.f t426 t429).bind fun bt433 => (customslaw34_JournalOpen.l0 kj25 t420 l1 (wrap64 (x12_1 + 1)) a3_0 l3_1 bt433.1 bt433.2)) else (customslaw34_JournalOpen.l0 kj25 t420 l1 (wrap64 (x12_1 + 1)) a3_0 l3_1 t426 t429)) = some true := H
                    have A30 := Aside0.mk A300
                    clear A300
                    by_cases c31 : (Int.tmod x12_1 3) = 1
                    · rw [if_pos c31] at H
                      have c31b0 : ((Int.tmod x12_1 3) == 1) = true := beq_iff_eq.mpr c31
                      have c31b1 : ((Int.tmod x12_1 3) != 1) = false := bne_eq_false_iff_eq.mpr c31
                      clear c31
                      replace H := Option.bind_eq_some_iff.mp H
                      obtain ⟨⟨t433, t436⟩, A320, H⟩ := H
                      replace H : (customslaw34_JournalOpen.l0 kj25 t420 l1 (wrap64 (x12_1 + 1)) a3_0 l3_1 t433 t436) = some true := H
                      have A32 := Aside0.mk A320
                      clear A320
                      have H' := Aside0.mk H
                      clear H
                      try go_wp2
                      have n0_ := Aside0.mk (Kd.N_drew HO_0.out)
                      have n1_ := Aside0.mk (Kd.V_drew HO_419000.out)
                      have n2_ := Aside0.mk (Kd.V_drew HO_419001.out)
                      have n3_ := Aside0.mk (Kd.V_drew HO_420001.out)
                      have n4_ := Aside0.mk (Kd.V_drew HO_424000.out)
                      have n5_ := Aside0.mk (Kd.R_drew HO_424001.out)
                      have n6_ := Aside0.mk (blk_drew BK418.out)
                      have n7_ := Aside0.mk (blk_drew BK419.out)
                      have n8_ := Aside0.mk (blk_drew BK423.out)
                      have n9_ := Aside0.mk (below_drew1 HB.out)
                      clear HO_0
                      clear HO_419000
                      clear HO_419001
                      clear HO_420001
                      clear HO_424000
                      clear HO_424001
                      clear BK418
                      clear BK419
                      clear BK423
                      clear HB
                      have HO_0 := n0_
                      have HO_419000 := n1_
                      have HO_419001 := n2_
                      have HO_420001 := n3_
                      have HO_424000 := n4_
                      have HO_424001 := n5_
                      have BK418 := n6_
                      have BK419 := n7_
                      have BK423 := n8_
                      have HB := n9_
                      clear n0_ n1_ n2_ n3_ n4_ n5_ n6_ n7_ n8_ n9_
                      have p425 : 0 ≤ (x12_1 : Int) := of_decide_eq_true (by first | (with_reducible assumption) | assumption)
                      have q425 : x12_1 < (t420.length : Int) := of_decide_eq_true (by first | (with_reducible assumption) | assumption)
                      obtain ⟨ad425, A425_0, c425_0, e425, hx425_0, hl425_0, hi425_0⟩ := at_L1 (Kd.N_reads' HO_0.out).2.2 x12_1 p425 q425
                      cases e425
                      obtain ⟨ce425, hce425, hMe425, hcc425⟩ := Kd.N_get HO_0.out [] x12_1 p425 (by first | exact q425 | exact of_decide_eq_true (by first | (with_reducible assumption) | assumption) | (have e_ := (Kd.N_reads' HO_0.out).1; omega))
                      obtain ⟨ua425_0, uc425_0, rfl, ul425_0, ge425_0⟩ := Kd.FK_slice_open hMe425
                      have hv425_0 := hcc425 0 _ rfl
                      rw [Nat.add_zero, show ((Kd.slice 5 (Kd.int .u8))).sz = 1 from rfl, Nat.mul_one] at hv425_0
                      replace hv425_0 := Option.some.inj (hv425_0.symm.trans hx425_0)
                      injection hv425_0 with hva_ hvn_ hvc_
                      rw [hva_] at ge425_0
                      rw [hvc_] at ul425_0
                      have HL425_0 := Aside0.mk (show Kd.V (Kd.int .u8) 5 _ w.heap.size _ _ (rd_L1 t420 x12_1) from Kd.V_mk ul425_0 ge425_0)
                      clear hva_ hvn_ hvc_ ge425_0 ul425_0
                      clear hcc425 hce425
                      have HR425_0 := Aside0.mk hi425_0
                      have HC425_0 := Aside0.mk hl425_0
                      clear hi425_0 hl425_0
                      replace p425 := eq_true p425
                      replace q425 := eq_true q425
                      obtain ⟨Ao34, co34, eo34⟩ := Kd.V_slice HO_424000.out
                      (first | subst eo34 | (injection eo34 with f1_ f2_ f3_; have f4_ := f1_.symm; have f5_ := f3_.symm; clear f1_ f2_ f3_; subst f4_; subst f5_))
                      obtain ⟨Ao35, co35, eo35⟩ := Kd.R_slice HO_424001.out
                      (first | subst eo35 | (injection eo35 with f1_ f2_ f3_; have f4_ := f1_.symm; have f5_ := f3_.symm; clear f1_ f2_ f3_; subst f4_; subst f5_))
                      refine start_ (n := 12) (S := fun w' => w'.cell? ⟨gb423, 0, none⟩ = some (.slice Ao34 x424000_1.length co34) ∧ w'.cell? ⟨gb423, 1, none⟩ = some (.slice Ao35 x424001_1.length co35) ∧ w'.cell? (ad425.add (x12_1).toNat) = some (.slice A425_0 (rd_L1 t420 x12_1).length c425_0)) (ds := [11]) #[false, false, false, false, false, false, false, false, false, false, false, false] (by kernel_rfl) rfl rfl ⟨(blk_cell BK423.out 0).trans rfl, (blk_cell BK423.out 1).trans rfl, hx425_0⟩ (fun hHeld => ?_); refine with_tabW customslaw34_JournalOpen.tab11 customslaw34_JournalOpen.bits11 (fun HT_ HW_ => ?_)
                      generalize wc.drew = w33 at HO_0 HO_419000 HO_419001 HO_420001 HO_424000 HO_424001 BK418 BK419 BK423 HB HL425_0 HR425_0 hx425_0 hHeld ⊢
                      refine pure_ (i := 1) (N := some 54) (v := ?_) (a' := ?_) #[false, true, false, false, false, false, false, false, false, false, false, false] rfl rfl (any_of HT_.out (by kernel_rfl)) (fun _ _ _ h => h) (Or.inl ⟨by rfl, ?_⟩) ?_ ?_
                      rotate_left
                      · intro w'
                        go_simp
                        with_reducible rfl
                      rotate_left
                      · simp only [Act.put, List.setIfInBounds_toArray, List.set_cons_zero, List.set_cons_succ, i64_w, i32_w]
                        rfl
                      refine pure_ (i := 2) (N := some 55) (v := ?_) (a' := ?_) #[false, true, true, false, false, false, false, false, false, false, false, false] rfl rfl (any_of HT_.out (by kernel_rfl)) (fun _ _ _ h => h) (Or.inl ⟨by rfl, ?_⟩) ?_ ?_
                      rotate_left
                      · intro w'
                        go_simp
                        with_reducible rfl
                      rotate_left
                      · simp only [Act.put, List.setIfInBounds_toArray, List.set_cons_zero, List.set_cons_succ, i64_w, i32_w]
                        rfl
                      refine pure_ (i := 3) (N := some 56) (v := ?_) (a' := ?_) #[false, true, true, true, false, false, false, false, false, false, false, false] rfl rfl (any_of HT_.out (by kernel_rfl)) (fun _ _ _ h => h) (Or.inl ⟨by rfl, ?_⟩) ?_ ?_
                      rotate_left
                      · intro w'
                        go_simp
                        with_reducible rfl
                      rotate_left
                      · simp only [Act.put, List.setIfInBounds_toArray, List.set_cons_zero, List.set_cons_succ, i64_w, i32_w]
                        rfl
                      refine pure_ (i := 4) (N := some 57) (v := ?_) (a' := ?_) #[false, true, true, true, true, false, false, false, false, false, false, false] rfl rfl (any_of HT_.out (by kernel_rfl)) (fun _ _ _ h => h) (Or.inl ⟨by rfl, ?_⟩) ?_ ?_
                      rotate_left
                      · intro w'
                        go_simp
                        with_reducible rfl
                      rotate_left
                      · simp only [Act.put, List.setIfInBounds_toArray, List.set_cons_zero, List.set_cons_succ, i64_w, i32_w]
                        rfl
                      refine take_ (i := 0) (N := some 53) (v := ?_) (a' := ?_) #[true, true, true, true, true, false, false, false, false, false, false, false] rfl rfl (take_ofW HT_.out HW_.out (by kernel_rfl)) (fun _ _ _ h => h) (Or.inl ⟨by rfl, ?_⟩) hHeld ?_ ?_
                      rotate_left
                      · rintro w' ⟨s0, s1, s2⟩
                        go_simp
                        with_reducible rfl
                      rotate_left
                      · simp only [Act.put, List.setIfInBounds_toArray, List.set_cons_zero, List.set_cons_succ, i64_w, i32_w]
                        rfl
                      refine take_ (i := 5) (N := some 58) (v := ?_) (a' := ?_) #[true, true, true, true, true, true, false, false, false, false, false, false] rfl rfl (take_ofW HT_.out HW_.out (by kernel_rfl)) (fun _ _ _ h => h) (Or.inl ⟨by rfl, ?_⟩) hHeld ?_ ?_
                      rotate_left
                      · rintro w' ⟨s0, s1, s2⟩
                        go_simp
                        with_reducible rfl
                      rotate_left
                      · simp only [Act.put, List.setIfInBounds_toArray, List.set_cons_zero, List.set_cons_succ, i64_w, i32_w]
                        rfl
                      refine pure_ (i := 6) (N := some 59) (v := ?_) (a' := ?_) #[true, true, true, true, true, true, true, false, false, false, false, false] rfl rfl (any_of HT_.out (by kernel_rfl)) (fun _ _ _ h => h) (Or.inl ⟨by rfl, ?_⟩) ?_ ?_
                      rotate_left
                      · intro w'
                        go_simp
                        with_reducible rfl
                      rotate_left
                      · simp only [Act.put, List.setIfInBounds_toArray, List.set_cons_zero, List.set_cons_succ, i64_w, i32_w]
                        rfl
                      refine one_ (i := 7) (N := some 60) #[true, true, true, true, true, true, true, true, false, false, false, false] rfl rfl (one_of HT_.out (by kernel_rfl)) (by decide) (fun K hK => ?_)
                      refine goes_ Try.func34 (by kernel_rfl) rfl #[.agg #[.slice Ao34 x424000_1.length co34, .slice Ao35 x424001_1.length co35], .agg #[.int .i64 x13_25, .slice A425_0 (rd_L1 t420 x12_1).length c425_0]] (by rfl) rfl rfl (by (try simp only [List.map_toArray, List.map_cons, List.map_nil]); first | done | rfl | (simp only [List.length_drop, List.length_take]; rfl)) ?_
                      with_reducible refine (customsref33_Put.calls kj25 (fun k_ => (((P0_ k_ ∨ P2_0_ k_ ∨ P2_1_ k_ ∨ P3_1_ k_) ∨ w.heap.size ≤ k_) ∧ (some k_ ≠ (.slice (some ad425) t420.length co23 : Value).ownBlock ∧ (some k_ ≠ (.slice Ao35 x424001_1.length co35 : Value).ownBlock ∧ (k_ ≠ gb418 ∧ (k_ ≠ gb419 ∧ k_ ≠ gb423)))))) _ _ x424000_1 _ _ x424001_1 x13_25 _ _ (rd_L1 t420 x12_1) t426 t429 t432 _ ?side1 ?side2 ?side3 ?side4 ?side5 A30.out).mono ?_
                      (case side1 => exact HO_424000.out)
                      (case side2 => exact pC (Kd.R_reads' HO_424001.out).2.2)
                      (case side3 => exact (Kd.R_reads' HO_424001.out).2.1)
                      (case side4 => exact pC (by exact pC HR425_0.out))
                      (case side5 => exact HC425_0.out)
                      rintro e w36 ⟨v427, v430, rfl, ho0, ho1, hb⟩
                      have HS2_ := (hb.cell (World.block_lt_of_cell? _ _ (hHeld.2.2))).trans (hHeld.2.2)
                      refine ⟨_, rfl, ?_⟩
                      have n0_ := Aside0.mk (Kd.N_elder' (by exact pN HO_0.out) (Kd.R_base ho1) hb)
                      have n1_ := Aside0.mk (Kd.V_elder' (by exact pV HO_419000.out) (Kd.R_base ho1) hb)
                      have n2_ := Aside0.mk (Kd.V_elder' (by exact pV HO_419001.out) (Kd.R_base ho1) hb)
                      have n3_ := Aside0.mk (Kd.V_elder' (by exact pV HO_420001.out) (Kd.R_base ho1) hb)
                      have n4_ := Aside0.mk (Kd.V_elder' (by exact pV HO_424000.out) (Kd.R_base ho1) hb)
                      have n5_ := Aside0.mk (Kd.R_elder' (by exact pR HO_424001.out) (Kd.R_base ho1) hb)
                      have n6_ := Aside0.mk (Kd.V_elder' (by exact pV HL425_0.out) (Kd.R_base ho1) hb)
                      have n7_ := Aside0.mk (Kd.V_lower (Kd.V_mono (ok' := fun k_ => ((P0_ k_ ∨ P2_0_ k_ ∨ P2_1_ k_ ∨ P3_1_ k_) ∨ w.heap.size ≤ k_) ∧ some k_ ≠ (v430 : Value).ownBlock ∧ some k_ ≠ (.slice (some ad425) t420.length co23 : Value).ownBlock ∧ some k_ ≠ (.slice Ao35 x424001_1.length co35 : Value).ownBlock ∧ k_ ≠ gb418 ∧ k_ ≠ gb419 ∧ k_ ≠ gb423) ho0 (fun k_ hk_ => ⟨Or.elim hk_.1 (fun hs_ => hs_.1) (fun hn_ => (.inr (Nat.le_trans (below_size (by exact pB HB.out)) hn_))), hk_.2, Or.elim hk_.1 (fun hs_ => hs_.2.1) (fun hn_ => (Kd.fresh' (Kd.N_lt (by exact pN HO_0.out)) k_ hn_)), Or.elim hk_.1 (fun hs_ => hs_.2.2.1) (fun hn_ => (Kd.fresh' (Kd.R_lt (by exact pR HO_424001.out)) k_ hn_)), Or.elim hk_.1 (fun hs_ => hs_.2.2.2.1) (fun hn_ => (Kd.freshB (g := gb418) (o := .cells #[.slice A2_0 l2_0.length c2_0, .slice A2_1 l2_1.length c2_1] 24 (0, 0)) (by exact pK BK418.out) k_ hn_)), Or.elim hk_.1 (fun hs_ => hs_.2.2.2.2.1) (fun hn_ => (Kd.freshB (g := gb419) (o := .cells #[.int .i64 a3_0, .slice A3_1 l3_1.length c3_1] 43 (0, 0)) (by exact pK BK419.out) k_ hn_)), Or.elim hk_.1 (fun hs_ => hs_.2.2.2.2.2) (fun hn_ => (Kd.freshB (g := gb423) (o := .cells #[.slice Ao34 x424000_1.length co34, .slice Ao35 x424001_1.length co35] 24 (0, 0)) (by exact pK BK423.out) k_ hn_))⟩)) (below_size (by exact pB HB.out)))
                      have n8_ := Aside0.mk (Kd.R_lower (Kd.R_new' (Kd.R_newM (M := fun k_ => (w.heap.size ≤ k_)) (Kd.R_mono (ok' := fun k_ => True) ho1 (fun _ hk_ => trivial)) (below_size (by exact pB HB.out)) (fun k_ h_ => h_)) (Kd.R_lt (by exact pR HO_424001.out))) (below_size (by exact pB HB.out)))
                      have n9_ := Aside0.mk (blk_below (g := gb418) (o := .cells #[.slice A2_0 l2_0.length c2_0, .slice A2_1 l2_1.length c2_1] 24 (0, 0)) (by exact pK BK418.out) hb)
                      have n10_ := Aside0.mk (blk_below (g := gb419) (o := .cells #[.int .i64 a3_0, .slice A3_1 l3_1.length c3_1] 43 (0, 0)) (by exact pK BK419.out) hb)
                      have n11_ := Aside0.mk (blk_below (g := gb423) (o := .cells #[.slice Ao34 x424000_1.length co34, .slice Ao35 x424001_1.length co35] 24 (0, 0)) (by exact pK BK423.out) hb)
                      have n12_ := Aside0.mk (Kd.C_below (by exact pC HR425_0.out) hb)
                      have n13_ := Aside0.mk (below_step (by exact pB HB.out) hb)
                      clear HO_0
                      clear HO_419000
                      clear HO_419001
                      clear HO_420001
                      clear HO_424000
                      clear HO_424001
                      clear HL425_0
                      clear BK418
                      clear BK419
                      clear BK423
                      clear HR425_0
                      clear HB
                      have HO_0 := n0_
                      have HO_419000 := n1_
                      have HO_419001 := n2_
                      have HO_420001 := n3_
                      have HO_424000 := n4_
                      have HO_424001 := n5_
                      have HL425_0 := n6_
                      have HO428 := n7_
                      have HO431 := n8_
                      have BK418 := n9_
                      have BK419 := n10_
                      have BK423 := n11_
                      have HR425_0 := n12_
                      have HB := n13_
                      clear n0_ n1_ n2_ n3_ n4_ n5_ n6_ n7_ n8_ n9_ n10_ n11_ n12_ n13_
                      (try clear hb)
                      (try clear hb2)
                      (try clear hk)
                      (try clear hi)
                      (try clear ho0)
                      (try clear ho1)
                      obtain ⟨Ao37, co37, eo37⟩ := Kd.V_slice HO428.out
                      (first | subst eo37 | (injection eo37 with f1_ f2_ f3_; have f4_ := f1_.symm; have f5_ := f3_.symm; clear f1_ f2_ f3_; subst f4_; subst f5_))
                      obtain ⟨Ao39, co39, eo39⟩ := Kd.R_slice HO431.out
                      (first | subst eo39 | (injection eo39 with f1_ f2_ f3_; have f4_ := f1_.symm; have f5_ := f3_.symm; clear f1_ f2_ f3_; subst f4_; subst f5_))
                      refine hK.out _ _ ⟨(blk_cell BK423.out 0).trans rfl, (blk_cell BK423.out 1).trans rfl, HS2_⟩ (fun hHeld => ?_)
                      clear hK K
                      refine norm_ (a' := ?_) ?_ ?_
                      rotate_left
                      · show Act.put _ (some 60) _ = _
                        simp only [Act.put, List.setIfInBounds_toArray, List.set_cons_zero, List.set_cons_succ, i64_w, i32_w]
                        rfl
                      refine pure_ (i := 8) (N := some 52) (v := ?_) (a' := ?_) #[true, true, true, true, true, true, true, true, true, false, false, false] rfl rfl (any_of HT_.out (by kernel_rfl)) (fun _ _ _ h => h) (Or.inl ⟨by rfl, ?_⟩) ?_ ?_
                      rotate_left
                      · intro w'
                        go_simp
                        with_reducible rfl
                      rotate_left
                      · simp only [Act.put, List.setIfInBounds_toArray, List.set_cons_zero, List.set_cons_succ, i64_w, i32_w]
                        rfl
                      refine pure_ (i := 9) (N := some 61) (v := ?_) (a' := ?_) #[true, true, true, true, true, true, true, true, true, true, false, false] rfl rfl (any_of HT_.out (by kernel_rfl)) (fun _ _ _ h => h) (Or.inl ⟨by rfl, ?_⟩) ?_ ?_
                      rotate_left
                      · intro w'
                        go_simp
                        with_reducible rfl
                      rotate_left
                      · simp only [Act.put, List.setIfInBounds_toArray, List.set_cons_zero, List.set_cons_succ, i64_w, i32_w]
                        rfl
                      refine pure_ (i := 10) (N := some 62) (v := ?_) (a' := ?_) #[true, true, true, true, true, true, true, true, true, true, true, false] rfl rfl (any_of HT_.out (by kernel_rfl)) (fun _ _ _ h => h) (Or.inl ⟨by rfl, ?_⟩) ?_ ?_
                      rotate_left
                      · intro w'
                        go_simp
                        with_reducible rfl
                      rotate_left
                      · simp only [Act.put, List.setIfInBounds_toArray, List.set_cons_zero, List.set_cons_succ, i64_w, i32_w]
                        rfl
                      refine last_ (i := 11) (N := none) #[true, true, true, true, true, true, true, true, true, true, true, true] rfl rfl (one_of HT_.out (by kernel_rfl)) (by decide) (fun K hK => ?_)
                      have hs38 : w36.cell? ⟨gb423, 0, none⟩ = some (.slice Ao34 x424000_1.length co34) := (blk_cell BK423.out 0).trans rfl
                      have hfs38 := blk_frozen BK423.out 0
                      have hns38_0 := NB418_423.out
                      have hns38_1 := NB419_423.out
                      have hms38_0 := NB423_418.out
                      have hms38_1 := NB423_419.out
                      have hs40 : w36.cell? ⟨gb423, 1, none⟩ = some (.slice Ao35 x424001_1.length co35) := (blk_cell BK423.out 1).trans rfl
                      have hfs40 := blk_frozen BK423.out 1
                      have hns40_0 := NB418_423.out
                      have hns40_1 := NB419_423.out
                      have hms40_0 := NB423_418.out
                      have hms40_1 := NB423_419.out
                      refine skip_ (w1 := ?_) (by rfl) rfl ?_ ?_
                      rotate_left
                      · go_simp
                        rfl
                      refine hK.out _ _ ?_
                      clear hK K
                      refine done_ (done_of HT_.out (by kernel_rfl)) ?_
                      have hnb41 := NB423_418.out
                      have hnc41 := NB418_423.out
                      have hnb42 := NB423_419.out
                      have hnc42 := NB419_423.out
                      have hcz43_0 : w36.cell? ⟨gb423, 0, none⟩ = some (.slice Ao34 x424000_1.length co34) := (blk_cell BK423.out 0).trans rfl
                      have hcz43_1 : w36.cell? ⟨gb423, 1, none⟩ = some (.slice Ao35 x424001_1.length co35) := (blk_cell BK423.out 1).trans rfl
                      have hfz43_0 := blk_frozen BK423.out 0
                      have hfz43_1 := blk_frozen BK423.out 1
                      try go_wp2_with (first | ((with_reducible refine gate_callee (f := 16) rfl ?_); refine goesL_ (some 67) rfl rfl Try.func16 (by kernel_rfl) rfl #[.agg #[.slice Ao37 t426.length co37, .slice Ao39 t429.length co39]] rfl (by (try simp only [List.map_toArray, List.map_cons, List.map_nil]); first | done | rfl | (simp only [List.length_drop, List.length_take]; rfl)) ?_; (with_reducible refine (customsref33_Sync.calls _ _ t426 _ _ t429 t433 t436 _ ?side1 ?side2 ?side3 ?side4 A32.out).mono ?_); (case side1 => refine (Kd.V_reads' (e := 5) (base := w.heap.size) (ok := fun k_ => (((P0_ k_ ∨ P2_0_ k_ ∨ P2_1_ k_ ∨ P3_1_ k_) ∨ w.heap.size ≤ k_) ∧ (some k_ ≠ (.slice Ao39 t429.length co39 : Value).ownBlock ∧ (some k_ ≠ (.slice (some ad425) t420.length co23 : Value).ownBlock ∧ (some k_ ≠ (.slice Ao35 x424001_1.length co35 : Value).ownBlock ∧ (k_ ≠ gb418 ∧ (k_ ≠ gb419 ∧ k_ ≠ gb423))))))) (n := t426.length) (c := co37) ?_).2.2; exact (by (with_reducible repeat (first | apply Kd.V_alloc | apply Kd.V_drewN | apply Kd.V_drew)); exact (Kd.V_mono (Kd.V_far (p := ⟨gb423, 1, none⟩) (Kd.V_far (p := ⟨gb423, 0, none⟩) (Kd.V_mono HO428.out (fun k_ hk => (⟨hk, hk.2.2.2.2.2.2⟩ : _ ∧ k_ ≠ gb423))) (fun _ hk => hk.2) (.slice Ao37 t426.length co37)) (fun _ hk => hk.2) (.slice Ao39 t429.length co39)) (fun _ h_ => h_.1)))); (case side2 => exact (Kd.V_reads' HO428.out).2.1); (case side3 => refine (Kd.R_reads' (e := 5) (base := w.heap.size) (ok := fun k_ => (((w.heap.size ≤ k_) ∧ True) ∧ some k_ ≠ (.slice Ao35 x424001_1.length co35 : Value).ownBlock)) (n := t429.length) (c := co39) ?_).2.2; exact (by (with_reducible repeat (first | apply Kd.R_alloc | apply Kd.R_drewN | apply Kd.R_drew)); exact (Kd.R_mono (Kd.R_far (p := ⟨gb423, 1, none⟩) (Kd.R_far (p := ⟨gb423, 0, none⟩) (Kd.R_types HO431.out BK423.out (by decide)) (fun _ hk => hk.2) (.slice Ao37 t426.length co37)) (fun _ hk => hk.2) (.slice Ao39 t429.length co39)) (fun _ h_ => h_.1)))); (case side4 => exact (Kd.R_reads' HO431.out).2.1); rintro e w44 ⟨v434, v437, rfl, ho0, ho1, hb⟩; refine ⟨_, rfl, ?_⟩; have n0_ := Aside0.mk (Kd.N_mono (Kd.N_told (Kd.N_told (Kd.N_old (by (with_reducible repeat (first | apply Kd.N_alloc | apply Kd.N_drewN | apply Kd.N_drew)); exact (Kd.N_mono (Kd.N_far (p := ⟨gb423, 1, none⟩) (Kd.N_far (p := ⟨gb423, 0, none⟩) (Kd.N_mono HO_0.out (fun k_ hk => (⟨hk, hk.1.2.2.2.2⟩ : _ ∧ k_ ≠ gb423))) (fun _ hk => hk.2) (.slice Ao37 t426.length co37)) (fun _ hk => hk.2) (.slice Ao39 t429.length co39)) (fun _ h_ => h_.1))) hb) (Kd.R_base ho0)) (Kd.R_base ho1)) (fun _ h_ => h_.1)); have n1_ := Aside0.mk (Kd.V_mono (Kd.V_told (Kd.V_told (Kd.V_old (by (with_reducible repeat (first | apply Kd.V_alloc | apply Kd.V_drewN | apply Kd.V_drew)); exact (Kd.V_mono (Kd.V_far (p := ⟨gb423, 1, none⟩) (Kd.V_far (p := ⟨gb423, 0, none⟩) (Kd.V_mono HO_419000.out (fun k_ hk => (⟨hk, hk.1.2.2.2.2.2⟩ : _ ∧ k_ ≠ gb423))) (fun _ hk => hk.2) (.slice Ao37 t426.length co37)) (fun _ hk => hk.2) (.slice Ao39 t429.length co39)) (fun _ h_ => h_.1))) hb) (Kd.R_base ho0)) (Kd.R_base ho1)) (fun _ h_ => h_.1)); have n2_ := Aside0.mk (Kd.V_mono (Kd.V_told (Kd.V_told (Kd.V_old (by (with_reducible repeat (first | apply Kd.V_alloc | apply Kd.V_drewN | apply Kd.V_drew)); exact (Kd.V_mono (Kd.V_far (p := ⟨gb423, 1, none⟩) (Kd.V_far (p := ⟨gb423, 0, none⟩) (Kd.V_mono HO_419001.out (fun k_ hk => (⟨hk, hk.1.2.2.2.2.2⟩ : _ ∧ k_ ≠ gb423))) (fun _ hk => hk.2) (.slice Ao37 t426.length co37)) (fun _ hk => hk.2) (.slice Ao39 t429.length co39)) (fun _ h_ => h_.1))) hb) (Kd.R_base ho0)) (Kd.R_base ho1)) (fun _ h_ => h_.1)); have n3_ := Aside0.mk (Kd.V_mono (Kd.V_told (Kd.V_told (Kd.V_old (by (with_reducible repeat (first | apply Kd.V_alloc | apply Kd.V_drewN | apply Kd.V_drew)); exact (Kd.V_mono (Kd.V_far (p := ⟨gb423, 1, none⟩) (Kd.V_far (p := ⟨gb423, 0, none⟩) (Kd.V_mono HO_420001.out (fun k_ hk => (⟨hk, hk.1.2.2.2.2.2⟩ : _ ∧ k_ ≠ gb423))) (fun _ hk => hk.2) (.slice Ao37 t426.length co37)) (fun _ hk => hk.2) (.slice Ao39 t429.length co39)) (fun _ h_ => h_.1))) hb) (Kd.R_base ho0)) (Kd.R_base ho1)) (fun _ h_ => h_.1)); have n4_ := Aside0.mk (Kd.V_mono (Kd.V_told (Kd.V_told (Kd.V_old (by (with_reducible repeat (first | apply Kd.V_alloc | apply Kd.V_drewN | apply Kd.V_drew)); exact (Kd.V_mono (Kd.V_far (p := ⟨gb423, 1, none⟩) (Kd.V_far (p := ⟨gb423, 0, none⟩) (Kd.V_mono HO_424000.out (fun k_ hk => (⟨hk, hk.1.2.2.2.2.2⟩ : _ ∧ k_ ≠ gb423))) (fun _ hk => hk.2) (.slice Ao37 t426.length co37)) (fun _ hk => hk.2) (.slice Ao39 t429.length co39)) (fun _ h_ => h_.1))) hb) (Kd.R_base ho0)) (Kd.R_base ho1)) (fun _ h_ => h_.1)); have n5_ := Aside0.mk (Kd.R_mono (Kd.R_told (Kd.R_told (Kd.R_old (by (with_reducible repeat (first | apply Kd.R_alloc | apply Kd.R_drewN | apply Kd.R_drew)); exact (Kd.R_mono (Kd.R_far (p := ⟨gb423, 1, none⟩) (Kd.R_far (p := ⟨gb423, 0, none⟩) (Kd.R_types HO_424001.out BK423.out (by decide)) (fun _ hk => hk.2) (.slice Ao37 t426.length co37)) (fun _ hk => hk.2) (.slice Ao39 t429.length co39)) (fun _ h_ => h_.1))) hb) (Kd.R_base ho0)) (Kd.R_base ho1)) (fun _ h_ => h_.1)); have n6_ := Aside0.mk (Kd.V_mono (Kd.V_told (Kd.V_told (Kd.V_old (by (with_reducible repeat (first | apply Kd.V_alloc | apply Kd.V_drewN | apply Kd.V_drew)); exact (Kd.V_mono (Kd.V_far (p := ⟨gb423, 1, none⟩) (Kd.V_far (p := ⟨gb423, 0, none⟩) (Kd.V_mono HL425_0.out (fun k_ hk => (⟨hk, hk.1.1.2.2.2.2⟩ : _ ∧ k_ ≠ gb423))) (fun _ hk => hk.2) (.slice Ao37 t426.length co37)) (fun _ hk => hk.2) (.slice Ao39 t429.length co39)) (fun _ h_ => h_.1))) hb) (Kd.R_base ho0)) (Kd.R_base ho1)) (fun _ h_ => h_.1)); have n7_ := Aside0.mk (Kd.V_mono (Kd.V_told (Kd.V_told (Kd.V_old (by (with_reducible repeat (first | apply Kd.V_alloc | apply Kd.V_drewN | apply Kd.V_drew)); exact (Kd.V_mono (Kd.V_far (p := ⟨gb423, 1, none⟩) (Kd.V_far (p := ⟨gb423, 0, none⟩) (Kd.V_mono HO428.out (fun k_ hk => (⟨hk, hk.2.2.2.2.2.2⟩ : _ ∧ k_ ≠ gb423))) (fun _ hk => hk.2) (.slice Ao37 t426.length co37)) (fun _ hk => hk.2) (.slice Ao39 t429.length co39)) (fun _ h_ => h_.1))) hb) (Kd.R_base ho0)) (Kd.R_base ho1)) (fun _ h_ => h_.1)); have n8_ := Aside0.mk (Kd.R_mono (Kd.R_told (Kd.R_told (Kd.R_old (by (with_reducible repeat (first | apply Kd.R_alloc | apply Kd.R_drewN | apply Kd.R_drew)); exact (Kd.R_mono (Kd.R_far (p := ⟨gb423, 1, none⟩) (Kd.R_far (p := ⟨gb423, 0, none⟩) (Kd.R_types HO431.out BK423.out (by decide)) (fun _ hk => hk.2) (.slice Ao37 t426.length co37)) (fun _ hk => hk.2) (.slice Ao39 t429.length co39)) (fun _ h_ => h_.1))) hb) (Kd.R_base ho0)) (Kd.R_base ho1)) (fun _ h_ => h_.1)); have n9_ := Aside0.mk (Kd.R_lower (Kd.R_new' (Kd.R_new' (Kd.R_newM (M := fun k_ => (w.heap.size ≤ k_)) ho0 (below_size (by repeat (first | (with_reducible first | exact HB.out | apply below_alloc | apply pw_below_drewN | apply below_drew1 | refine below_set ?_ GE418.out | refine below_set ?_ GE419.out | refine below_set ?_ GE423.out) | exact HB.out))) (fun k_ h_ => h_)) (Kd.R_lt (by (with_reducible repeat (first | apply Kd.R_alloc | apply Kd.R_drewN | apply Kd.R_drew)); exact (Kd.R_mono (Kd.R_far (p := ⟨gb423, 1, none⟩) (Kd.R_far (p := ⟨gb423, 0, none⟩) (Kd.R_types HO_424001.out BK423.out (by decide)) (fun _ hk => hk.2) (.slice Ao37 t426.length co37)) (fun _ hk => hk.2) (.slice Ao39 t429.length co39)) (fun _ h_ => h_.1))))) (Kd.R_lt (by (with_reducible repeat (first | apply Kd.R_alloc | apply Kd.R_drewN | apply Kd.R_drew)); exact (Kd.R_mono (Kd.R_far (p := ⟨gb423, 1, none⟩) (Kd.R_far (p := ⟨gb423, 0, none⟩) (Kd.R_types HO431.out BK423.out (by decide)) (fun _ hk => hk.2) (.slice Ao37 t426.length co37)) (fun _ hk => hk.2) (.slice Ao39 t429.length co39)) (fun _ h_ => h_.1))))) (below_size (by repeat (first | (with_reducible first | exact HB.out | apply below_alloc | apply pw_below_drewN | apply below_drew1 | refine below_set ?_ GE418.out | refine below_set ?_ GE419.out | refine below_set ?_ GE423.out) | exact HB.out)))); have n10_ := Aside0.mk (Kd.R_lower (Kd.R_new' (Kd.R_new' (Kd.R_newM (M := fun k_ => (w.heap.size ≤ k_)) ho1 (below_size (by repeat (first | (with_reducible first | exact HB.out | apply below_alloc | apply pw_below_drewN | apply below_drew1 | refine below_set ?_ GE418.out | refine below_set ?_ GE419.out | refine below_set ?_ GE423.out) | exact HB.out))) (fun k_ h_ => h_)) (Kd.R_lt (by (with_reducible repeat (first | apply Kd.R_alloc | apply Kd.R_drewN | apply Kd.R_drew)); exact (Kd.R_mono (Kd.R_far (p := ⟨gb423, 1, none⟩) (Kd.R_far (p := ⟨gb423, 0, none⟩) (Kd.R_types HO_424001.out BK423.out (by decide)) (fun _ hk => hk.2) (.slice Ao37 t426.length co37)) (fun _ hk => hk.2) (.slice Ao39 t429.length co39)) (fun _ h_ => h_.1))))) (Kd.R_lt (by (with_reducible repeat (first | apply Kd.R_alloc | apply Kd.R_drewN | apply Kd.R_drew)); exact (Kd.R_mono (Kd.R_far (p := ⟨gb423, 1, none⟩) (Kd.R_far (p := ⟨gb423, 0, none⟩) (Kd.R_types HO431.out BK423.out (by decide)) (fun _ hk => hk.2) (.slice Ao37 t426.length co37)) (fun _ hk => hk.2) (.slice Ao39 t429.length co39)) (fun _ h_ => h_.1))))) (below_size (by repeat (first | (with_reducible first | exact HB.out | apply below_alloc | apply pw_below_drewN | apply below_drew1 | refine below_set ?_ GE418.out | refine below_set ?_ GE419.out | refine below_set ?_ GE423.out) | exact HB.out)))); have n11_ := Aside0.mk (blk_below (g := gb418) (o := .cells #[.slice A2_0 l2_0.length c2_0, .slice A2_1 l2_1.length c2_1] 24 (0, 0)) (by (with_reducible repeat (first | refine blk_drewN ?_ _ | refine blk_drew ?_ | refine blk_alloc ?_ _)); refine blk_far ?_ NB418_423.out _; (with_reducible repeat (first | refine blk_drewN ?_ _ | refine blk_drew ?_ | refine blk_alloc ?_ _)); refine blk_far ?_ NB418_423.out _; (with_reducible repeat (first | refine blk_drewN ?_ _ | refine blk_drew ?_ | refine blk_alloc ?_ _)); exact BK418.out) hb); have n12_ := Aside0.mk (blk_below (g := gb419) (o := .cells #[.int .i64 a3_0, .slice A3_1 l3_1.length c3_1] 43 (0, 0)) (by (with_reducible repeat (first | refine blk_drewN ?_ _ | refine blk_drew ?_ | refine blk_alloc ?_ _)); refine blk_far ?_ NB419_423.out _; (with_reducible repeat (first | refine blk_drewN ?_ _ | refine blk_drew ?_ | refine blk_alloc ?_ _)); refine blk_far ?_ NB419_423.out _; (with_reducible repeat (first | refine blk_drewN ?_ _ | refine blk_drew ?_ | refine blk_alloc ?_ _)); exact BK419.out) hb); have n13_ := Aside0.mk (blk_below (g := gb423) (o := .cells #[.slice Ao37 t426.length co37, .slice Ao39 t429.length co39] 24 (0, 0)) (by (with_reducible repeat (first | refine blk_drewN ?_ _ | refine blk_drew ?_ | refine blk_alloc ?_ _)); refine blk_put (cs := #[.slice Ao37 t426.length co37, .slice Ao35 x424001_1.length co35]) ?_ 1 _ rfl; (with_reducible repeat (first | refine blk_drewN ?_ _ | refine blk_drew ?_ | refine blk_alloc ?_ _)); refine blk_put (cs := #[.slice Ao34 x424000_1.length co34, .slice Ao35 x424001_1.length co35]) ?_ 0 _ rfl; (with_reducible repeat (first | refine blk_drewN ?_ _ | refine blk_drew ?_ | refine blk_alloc ?_ _)); exact BK423.out) hb); have n14_ := Aside0.mk (Kd.C_below ((Kd.V_reads' (by (with_reducible repeat (first | apply Kd.V_alloc | apply Kd.V_drewN | apply Kd.V_drew)); exact (Kd.V_mono (Kd.V_far (p := ⟨gb423, 1, none⟩) (Kd.V_far (p := ⟨gb423, 0, none⟩) (Kd.V_mono HL425_0.out (fun k_ hk => (⟨hk, hk.1.1.2.2.2.2⟩ : _ ∧ k_ ≠ gb423))) (fun _ hk => hk.2) (.slice Ao37 t426.length co37)) (fun _ hk => hk.2) (.slice Ao39 t429.length co39)) (fun _ h_ => h_.1)))).2.2) hb); have n15_ := Aside0.mk (below_step (by repeat (first | (with_reducible first | exact HB.out | apply below_alloc | apply pw_below_drewN | apply below_drew1 | refine below_set ?_ GE418.out | refine below_set ?_ GE419.out | refine below_set ?_ GE423.out) | exact HB.out)) hb); clear HO_0; clear HO_419000; clear HO_419001; clear HO_420001; clear HO_424000; clear HO_424001; clear HL425_0; clear HO428; clear HO431; clear BK418; clear BK419; clear BK423; clear HR425_0; clear HB; have HO_0 := n0_; have HO_419000 := n1_; have HO_419001 := n2_; have HO_420001 := n3_; have HO_424000 := n4_; have HO_424001 := n5_; have HL425_0 := n6_; have HO428 := n7_; have HO431 := n8_; have HO435 := n9_; have HO438 := n10_; have BK418 := n11_; have BK419 := n12_; have BK423 := n13_; have HR425_0 := n14_; have HB := n15_; clear n0_ n1_ n2_ n3_ n4_ n5_ n6_ n7_ n8_ n9_ n10_ n11_ n12_ n13_ n14_ n15_; (try clear hb); (try clear hb2); (try clear hk); (try clear hi); (try clear ho0); (try clear ho1); obtain ⟨Ao45, co45, eo45⟩ := Kd.R_slice HO435.out; subst eo45; have hcz46_0 : w44.cell? ⟨gb423, 0, none⟩ = some (.slice Ao37 t426.length co37) := (blk_cell BK423.out 0).trans rfl; have hcz46_1 : w44.cell? ⟨gb423, 1, none⟩ = some (.slice Ao39 t429.length co39) := (blk_cell BK423.out 1).trans rfl; have hfz46_0 := blk_frozen BK423.out 0; have hfz46_1 := blk_frozen BK423.out 1; obtain ⟨Ao47, co47, eo47⟩ := Kd.R_slice HO438.out; subst eo47))
                      go_roundg kj25
                      case measure => have := HK1.out; have := HJ21.out; have := HJ25.out; omega
                      case rel => exact ⟨(wrap64 (x12_1 + 1)), (t433), (t436), (.slice Ao45 t433.length co45), (.slice Ao47 t436.length co47), (by first | rfl | (simp; done) | (simp [*]; done)), H', ⟨by have := HK1.out; have := HJ21.out; have := HJ25.out; omega⟩, ⟨by (with_reducible repeat (first | apply Kd.N_alloc | apply Kd.N_drewN | apply Kd.N_drew)); exact Kd.N_mono (Kd.N_far (p := ⟨gb423, 1, none⟩) (Kd.N_far (p := ⟨gb423, 0, none⟩) (Kd.N_mono HO_0.out (fun k_ hk => (⟨hk, hk.1.1.1.2.2.2.2⟩ : _ ∧ k_ ≠ gb423))) (fun _ hk => hk.2) (.slice Ao45 t433.length co45)) (fun _ hk => hk.2) (.slice Ao47 t436.length co47)) (fun _ hk => ⟨hk.1.1.1.1.1, ⟨hk.1.2, ⟨hk.1.1.1.1.2.2.1, ⟨hk.1.1.1.1.2.2.2.1, hk.1.1.1.1.2.2.2.2⟩⟩⟩⟩)⟩, ⟨by (with_reducible repeat (first | apply Kd.V_alloc | apply Kd.V_drewN | apply Kd.V_drew)); exact Kd.V_mono (Kd.V_far (p := ⟨gb423, 1, none⟩) (Kd.V_far (p := ⟨gb423, 0, none⟩) (Kd.V_mono HO_419000.out (fun k_ hk => (⟨hk, hk.1.1.1.2.2.2.2.2⟩ : _ ∧ k_ ≠ gb423))) (fun _ hk => hk.2) (.slice Ao45 t433.length co45)) (fun _ hk => hk.2) (.slice Ao47 t436.length co47)) (fun _ hk => ⟨hk.1.1.1.1.1, ⟨hk.1.1.1.1.2.1, ⟨hk.1.2, ⟨hk.1.1.1.1.2.2.2.1, ⟨hk.1.1.1.1.2.2.2.2.1, hk.1.1.1.1.2.2.2.2.2⟩⟩⟩⟩⟩)⟩, ⟨by (with_reducible repeat (first | apply Kd.V_alloc | apply Kd.V_drewN | apply Kd.V_drew)); exact Kd.V_mono (Kd.V_far (p := ⟨gb423, 1, none⟩) (Kd.V_far (p := ⟨gb423, 0, none⟩) (Kd.V_mono HO_419001.out (fun k_ hk => (⟨hk, hk.1.1.1.2.2.2.2.2⟩ : _ ∧ k_ ≠ gb423))) (fun _ hk => hk.2) (.slice Ao45 t433.length co45)) (fun _ hk => hk.2) (.slice Ao47 t436.length co47)) (fun _ hk => ⟨hk.1.1.1.1.1, ⟨hk.1.1.1.1.2.1, ⟨hk.1.2, ⟨hk.1.1.1.1.2.2.2.1, ⟨hk.1.1.1.1.2.2.2.2.1, hk.1.1.1.1.2.2.2.2.2⟩⟩⟩⟩⟩)⟩, ⟨by (with_reducible repeat (first | apply Kd.V_alloc | apply Kd.V_drewN | apply Kd.V_drew)); exact Kd.V_mono (Kd.V_far (p := ⟨gb423, 1, none⟩) (Kd.V_far (p := ⟨gb423, 0, none⟩) (Kd.V_mono HO_420001.out (fun k_ hk => (⟨hk, hk.1.1.1.2.2.2.2.2⟩ : _ ∧ k_ ≠ gb423))) (fun _ hk => hk.2) (.slice Ao45 t433.length co45)) (fun _ hk => hk.2) (.slice Ao47 t436.length co47)) (fun _ hk => ⟨hk.1.1.1.1.1, ⟨hk.1.1.1.1.2.1, ⟨hk.1.2, ⟨hk.1.1.1.1.2.2.2.1, ⟨hk.1.1.1.1.2.2.2.2.1, hk.1.1.1.1.2.2.2.2.2⟩⟩⟩⟩⟩)⟩, ⟨Kd.V_mono (Kd.R_V (by (with_reducible repeat (first | apply Kd.R_alloc | apply Kd.R_drewN | apply Kd.R_drew)); exact (Kd.R_far (p := ⟨gb423, 1, none⟩) (Kd.R_far (p := ⟨gb423, 0, none⟩) (Kd.R_types (Kd.R_types (Kd.R_types (Kd.R_types (Kd.R_apart' HO435.out (Kd.N_typed HO_0.out) (by decide)) BK418.out (by decide)) BK419.out (by decide)) BK423.out (by decide)) BK423.out (by decide)) (fun _ hk => hk.2) (.slice Ao45 t433.length co45)) (fun _ hk => hk.2) (.slice Ao47 t436.length co47)))) (fun _ hk => by exact ⟨(.inr (hk.1.1.1.1.1.1.1.1)), ⟨hk.1.1.1.1.2, ⟨hk.1.1.1.1.1.1.1.2, ⟨hk.1.1.1.2, ⟨hk.1.1.2, hk.1.2⟩⟩⟩⟩⟩)⟩, ⟨by (with_reducible repeat (first | apply Kd.R_alloc | apply Kd.R_drewN | apply Kd.R_drew)); exact Kd.R_mono (Kd.R_far (p := ⟨gb423, 1, none⟩) (Kd.R_far (p := ⟨gb423, 0, none⟩) (Kd.R_types HO438.out BK423.out (by decide)) (fun _ hk => hk.2) (.slice Ao45 t433.length co45)) (fun _ hk => hk.2) (.slice Ao47 t436.length co47)) (fun _ hk => hk.1.1.1.1)⟩, ⟨by (with_reducible repeat (first | refine blk_drewN ?_ _ | refine blk_drew ?_ | refine blk_alloc ?_ _)); refine blk_far ?_ NB418_423.out _; (with_reducible repeat (first | refine blk_drewN ?_ _ | refine blk_drew ?_ | refine blk_alloc ?_ _)); refine blk_far ?_ NB418_423.out _; (with_reducible repeat (first | refine blk_drewN ?_ _ | refine blk_drew ?_ | refine blk_alloc ?_ _)); exact BK418.out⟩, ⟨by (with_reducible repeat (first | refine blk_drewN ?_ _ | refine blk_drew ?_ | refine blk_alloc ?_ _)); refine blk_far ?_ NB419_423.out _; (with_reducible repeat (first | refine blk_drewN ?_ _ | refine blk_drew ?_ | refine blk_alloc ?_ _)); refine blk_far ?_ NB419_423.out _; (with_reducible repeat (first | refine blk_drewN ?_ _ | refine blk_drew ?_ | refine blk_alloc ?_ _)); exact BK419.out⟩, ⟨by (with_reducible repeat (first | refine blk_drewN ?_ _ | refine blk_drew ?_ | refine blk_alloc ?_ _)); refine blk_put (cs := #[.slice Ao45 t433.length co45, .slice Ao39 t429.length co39]) ?_ 1 _ rfl; (with_reducible repeat (first | refine blk_drewN ?_ _ | refine blk_drew ?_ | refine blk_alloc ?_ _)); refine blk_put (cs := #[.slice Ao37 t426.length co37, .slice Ao39 t429.length co39]) ?_ 0 _ rfl; (with_reducible repeat (first | refine blk_drewN ?_ _ | refine blk_drew ?_ | refine blk_alloc ?_ _)); exact BK423.out⟩, ⟨by repeat (first | (with_reducible first | exact HB.out | apply below_alloc | apply pw_below_drewN | apply below_drew1 | refine below_set ?_ GE418.out | refine below_set ?_ GE419.out | refine below_set ?_ GE423.out) | exact HB.out)⟩⟩
                    · rw [if_neg c31] at H
                      have c31b0 : ((Int.tmod x12_1 3) == 1) = false := beq_eq_false_iff_ne.mpr c31
                      have c31b1 : ((Int.tmod x12_1 3) != 1) = true := bne_iff_ne.mpr c31
                      have H' := Aside0.mk H
                      clear H
                      try go_wp2
                      have n0_ := Aside0.mk (Kd.N_drew HO_0.out)
                      have n1_ := Aside0.mk (Kd.V_drew HO_419000.out)
                      have n2_ := Aside0.mk (Kd.V_drew HO_419001.out)
                      have n3_ := Aside0.mk (Kd.V_drew HO_420001.out)
                      have n4_ := Aside0.mk (Kd.V_drew HO_424000.out)
                      have n5_ := Aside0.mk (Kd.R_drew HO_424001.out)
                      have n6_ := Aside0.mk (blk_drew BK418.out)
                      have n7_ := Aside0.mk (blk_drew BK419.out)
                      have n8_ := Aside0.mk (blk_drew BK423.out)
                      have n9_ := Aside0.mk (below_drew1 HB.out)
                      clear HO_0
                      clear HO_419000
                      clear HO_419001
                      clear HO_420001
                      clear HO_424000
                      clear HO_424001
                      clear BK418
                      clear BK419
                      clear BK423
                      clear HB
                      have HO_0 := n0_
                      have HO_419000 := n1_
                      have HO_419001 := n2_
                      have HO_420001 := n3_
                      have HO_424000 := n4_
                      have HO_424001 := n5_
                      have BK418 := n6_
                      have BK419 := n7_
                      have BK423 := n8_
                      have HB := n9_
                      clear n0_ n1_ n2_ n3_ n4_ n5_ n6_ n7_ n8_ n9_
                      have p425 : 0 ≤ (x12_1 : Int) := of_decide_eq_true (by first | (with_reducible assumption) | assumption)
                      have q425 : x12_1 < (t420.length : Int) := of_decide_eq_true (by first | (with_reducible assumption) | assumption)
                      obtain ⟨ad425, A425_0, c425_0, e425, hx425_0, hl425_0, hi425_0⟩ := at_L1 (Kd.N_reads' HO_0.out).2.2 x12_1 p425 q425
                      cases e425
                      obtain ⟨ce425, hce425, hMe425, hcc425⟩ := Kd.N_get HO_0.out [] x12_1 p425 (by first | exact q425 | exact of_decide_eq_true (by first | (with_reducible assumption) | assumption) | (have e_ := (Kd.N_reads' HO_0.out).1; omega))
                      obtain ⟨ua425_0, uc425_0, rfl, ul425_0, ge425_0⟩ := Kd.FK_slice_open hMe425
                      have hv425_0 := hcc425 0 _ rfl
                      rw [Nat.add_zero, show ((Kd.slice 5 (Kd.int .u8))).sz = 1 from rfl, Nat.mul_one] at hv425_0
                      replace hv425_0 := Option.some.inj (hv425_0.symm.trans hx425_0)
                      injection hv425_0 with hva_ hvn_ hvc_
                      rw [hva_] at ge425_0
                      rw [hvc_] at ul425_0
                      have HL425_0 := Aside0.mk (show Kd.V (Kd.int .u8) 5 _ w.heap.size _ _ (rd_L1 t420 x12_1) from Kd.V_mk ul425_0 ge425_0)
                      clear hva_ hvn_ hvc_ ge425_0 ul425_0
                      clear hcc425 hce425
                      have HR425_0 := Aside0.mk hi425_0
                      have HC425_0 := Aside0.mk hl425_0
                      clear hi425_0 hl425_0
                      replace p425 := eq_true p425
                      replace q425 := eq_true q425
                      obtain ⟨Ao49, co49, eo49⟩ := Kd.V_slice HO_424000.out
                      (first | subst eo49 | (injection eo49 with f1_ f2_ f3_; have f4_ := f1_.symm; have f5_ := f3_.symm; clear f1_ f2_ f3_; subst f4_; subst f5_))
                      obtain ⟨Ao50, co50, eo50⟩ := Kd.R_slice HO_424001.out
                      (first | subst eo50 | (injection eo50 with f1_ f2_ f3_; have f4_ := f1_.symm; have f5_ := f3_.symm; clear f1_ f2_ f3_; subst f4_; subst f5_))
                      refine start_ (n := 12) (S := fun w' => w'.cell? ⟨gb423, 0, none⟩ = some (.slice Ao49 x424000_1.length co49) ∧ w'.cell? ⟨gb423, 1, none⟩ = some (.slice Ao50 x424001_1.length co50) ∧ w'.cell? (ad425.add (x12_1).toNat) = some (.slice A425_0 (rd_L1 t420 x12_1).length c425_0)) (ds := [11]) #[false, false, false, false, false, false, false, false, false, false, false, false] (by kernel_rfl) rfl rfl ⟨(blk_cell BK423.out 0).trans rfl, (blk_cell BK423.out 1).trans rfl, hx425_0⟩ (fun hHeld => ?_); refine with_tabW customslaw34_JournalOpen.tab11 customslaw34_JournalOpen.bits11 (fun HT_ HW_ => ?_)
                      generalize wc.drew = w48 at HO_0 HO_419000 HO_419001 HO_420001 HO_424000 HO_424001 BK418 BK419 BK423 HB HL425_0 HR425_0 hx425_0 hHeld ⊢
                      refine pure_ (i := 1) (N := some 54) (v := ?_) (a' := ?_) #[false, true, false, false, false, false, false, false, false, false, false, false] rfl rfl (any_of HT_.out (by kernel_rfl)) (fun _ _ _ h => h) (Or.inl ⟨by rfl, ?_⟩) ?_ ?_
                      rotate_left
                      · intro w'
                        go_simp
                        with_reducible rfl
                      rotate_left
                      · simp only [Act.put, List.setIfInBounds_toArray, List.set_cons_zero, List.set_cons_succ, i64_w, i32_w]
                        rfl
                      refine pure_ (i := 2) (N := some 55) (v := ?_) (a' := ?_) #[false, true, true, false, false, false, false, false, false, false, false, false] rfl rfl (any_of HT_.out (by kernel_rfl)) (fun _ _ _ h => h) (Or.inl ⟨by rfl, ?_⟩) ?_ ?_
                      rotate_left
                      · intro w'
                        go_simp
                        with_reducible rfl
                      rotate_left
                      · simp only [Act.put, List.setIfInBounds_toArray, List.set_cons_zero, List.set_cons_succ, i64_w, i32_w]
                        rfl
                      refine pure_ (i := 3) (N := some 56) (v := ?_) (a' := ?_) #[false, true, true, true, false, false, false, false, false, false, false, false] rfl rfl (any_of HT_.out (by kernel_rfl)) (fun _ _ _ h => h) (Or.inl ⟨by rfl, ?_⟩) ?_ ?_
                      rotate_left
                      · intro w'
                        go_simp
                        with_reducible rfl
                      rotate_left
                      · simp only [Act.put, List.setIfInBounds_toArray, List.set_cons_zero, List.set_cons_succ, i64_w, i32_w]
                        rfl
                      refine pure_ (i := 4) (N := some 57) (v := ?_) (a' := ?_) #[false, true, true, true, true, false, false, false, false, false, false, false] rfl rfl (any_of HT_.out (by kernel_rfl)) (fun _ _ _ h => h) (Or.inl ⟨by rfl, ?_⟩) ?_ ?_
                      rotate_left
                      · intro w'
                        go_simp
                        with_reducible rfl
                      rotate_left
                      · simp only [Act.put, List.setIfInBounds_toArray, List.set_cons_zero, List.set_cons_succ, i64_w, i32_w]
                        rfl
                      refine take_ (i := 0) (N := some 53) (v := ?_) (a' := ?_) #[true, true, true, true, true, false, false, false, false, false, false, false] rfl rfl (take_ofW HT_.out HW_.out (by kernel_rfl)) (fun _ _ _ h => h) (Or.inl ⟨by rfl, ?_⟩) hHeld ?_ ?_
                      rotate_left
                      · rintro w' ⟨s0, s1, s2⟩
                        go_simp
                        with_reducible rfl
                      rotate_left
                      · simp only [Act.put, List.setIfInBounds_toArray, List.set_cons_zero, List.set_cons_succ, i64_w, i32_w]
                        rfl
                      refine take_ (i := 5) (N := some 58) (v := ?_) (a' := ?_) #[true, true, true, true, true, true, false, false, false, false, false, false] rfl rfl (take_ofW HT_.out HW_.out (by kernel_rfl)) (fun _ _ _ h => h) (Or.inl ⟨by rfl, ?_⟩) hHeld ?_ ?_
                      rotate_left
                      · rintro w' ⟨s0, s1, s2⟩
                        go_simp
                        with_reducible rfl
                      rotate_left
                      · simp only [Act.put, List.setIfInBounds_toArray, List.set_cons_zero, List.set_cons_succ, i64_w, i32_w]
                        rfl
                      refine pure_ (i := 6) (N := some 59) (v := ?_) (a' := ?_) #[true, true, true, true, true, true, true, false, false, false, false, false] rfl rfl (any_of HT_.out (by kernel_rfl)) (fun _ _ _ h => h) (Or.inl ⟨by rfl, ?_⟩) ?_ ?_
                      rotate_left
                      · intro w'
                        go_simp
                        with_reducible rfl
                      rotate_left
                      · simp only [Act.put, List.setIfInBounds_toArray, List.set_cons_zero, List.set_cons_succ, i64_w, i32_w]
                        rfl
                      refine one_ (i := 7) (N := some 60) #[true, true, true, true, true, true, true, true, false, false, false, false] rfl rfl (one_of HT_.out (by kernel_rfl)) (by decide) (fun K hK => ?_)
                      refine goes_ Try.func34 (by kernel_rfl) rfl #[.agg #[.slice Ao49 x424000_1.length co49, .slice Ao50 x424001_1.length co50], .agg #[.int .i64 x13_25, .slice A425_0 (rd_L1 t420 x12_1).length c425_0]] (by rfl) rfl rfl (by (try simp only [List.map_toArray, List.map_cons, List.map_nil]); first | done | rfl | (simp only [List.length_drop, List.length_take]; rfl)) ?_
                      with_reducible refine (customsref33_Put.calls kj25 (fun k_ => (((P0_ k_ ∨ P2_0_ k_ ∨ P2_1_ k_ ∨ P3_1_ k_) ∨ w.heap.size ≤ k_) ∧ (some k_ ≠ (.slice (some ad425) t420.length co23 : Value).ownBlock ∧ (some k_ ≠ (.slice Ao50 x424001_1.length co50 : Value).ownBlock ∧ (k_ ≠ gb418 ∧ (k_ ≠ gb419 ∧ k_ ≠ gb423)))))) _ _ x424000_1 _ _ x424001_1 x13_25 _ _ (rd_L1 t420 x12_1) t426 t429 t432 _ ?side1 ?side2 ?side3 ?side4 ?side5 A30.out).mono ?_
                      (case side1 => exact HO_424000.out)
                      (case side2 => exact pC (Kd.R_reads' HO_424001.out).2.2)
                      (case side3 => exact (Kd.R_reads' HO_424001.out).2.1)
                      (case side4 => exact pC (by exact pC HR425_0.out))
                      (case side5 => exact HC425_0.out)
                      rintro e w51 ⟨v427, v430, rfl, ho0, ho1, hb⟩
                      have HS2_ := (hb.cell (World.block_lt_of_cell? _ _ (hHeld.2.2))).trans (hHeld.2.2)
                      refine ⟨_, rfl, ?_⟩
                      have n0_ := Aside0.mk (Kd.N_elder' (by exact pN HO_0.out) (Kd.R_base ho1) hb)
                      have n1_ := Aside0.mk (Kd.V_elder' (by exact pV HO_419000.out) (Kd.R_base ho1) hb)
                      have n2_ := Aside0.mk (Kd.V_elder' (by exact pV HO_419001.out) (Kd.R_base ho1) hb)
                      have n3_ := Aside0.mk (Kd.V_elder' (by exact pV HO_420001.out) (Kd.R_base ho1) hb)
                      have n4_ := Aside0.mk (Kd.V_elder' (by exact pV HO_424000.out) (Kd.R_base ho1) hb)
                      have n5_ := Aside0.mk (Kd.R_elder' (by exact pR HO_424001.out) (Kd.R_base ho1) hb)
                      have n6_ := Aside0.mk (Kd.V_elder' (by exact pV HL425_0.out) (Kd.R_base ho1) hb)
                      have n7_ := Aside0.mk (Kd.V_lower (Kd.V_mono (ok' := fun k_ => ((P0_ k_ ∨ P2_0_ k_ ∨ P2_1_ k_ ∨ P3_1_ k_) ∨ w.heap.size ≤ k_) ∧ some k_ ≠ (v430 : Value).ownBlock ∧ some k_ ≠ (.slice (some ad425) t420.length co23 : Value).ownBlock ∧ some k_ ≠ (.slice Ao50 x424001_1.length co50 : Value).ownBlock ∧ k_ ≠ gb418 ∧ k_ ≠ gb419 ∧ k_ ≠ gb423) ho0 (fun k_ hk_ => ⟨Or.elim hk_.1 (fun hs_ => hs_.1) (fun hn_ => (.inr (Nat.le_trans (below_size (by exact pB HB.out)) hn_))), hk_.2, Or.elim hk_.1 (fun hs_ => hs_.2.1) (fun hn_ => (Kd.fresh' (Kd.N_lt (by exact pN HO_0.out)) k_ hn_)), Or.elim hk_.1 (fun hs_ => hs_.2.2.1) (fun hn_ => (Kd.fresh' (Kd.R_lt (by exact pR HO_424001.out)) k_ hn_)), Or.elim hk_.1 (fun hs_ => hs_.2.2.2.1) (fun hn_ => (Kd.freshB (g := gb418) (o := .cells #[.slice A2_0 l2_0.length c2_0, .slice A2_1 l2_1.length c2_1] 24 (0, 0)) (by exact pK BK418.out) k_ hn_)), Or.elim hk_.1 (fun hs_ => hs_.2.2.2.2.1) (fun hn_ => (Kd.freshB (g := gb419) (o := .cells #[.int .i64 a3_0, .slice A3_1 l3_1.length c3_1] 43 (0, 0)) (by exact pK BK419.out) k_ hn_)), Or.elim hk_.1 (fun hs_ => hs_.2.2.2.2.2) (fun hn_ => (Kd.freshB (g := gb423) (o := .cells #[.slice Ao49 x424000_1.length co49, .slice Ao50 x424001_1.length co50] 24 (0, 0)) (by exact pK BK423.out) k_ hn_))⟩)) (below_size (by exact pB HB.out)))
                      have n8_ := Aside0.mk (Kd.R_lower (Kd.R_new' (Kd.R_newM (M := fun k_ => (w.heap.size ≤ k_)) (Kd.R_mono (ok' := fun k_ => True) ho1 (fun _ hk_ => trivial)) (below_size (by exact pB HB.out)) (fun k_ h_ => h_)) (Kd.R_lt (by exact pR HO_424001.out))) (below_size (by exact pB HB.out)))
                      have n9_ := Aside0.mk (blk_below (g := gb418) (o := .cells #[.slice A2_0 l2_0.length c2_0, .slice A2_1 l2_1.length c2_1] 24 (0, 0)) (by exact pK BK418.out) hb)
                      have n10_ := Aside0.mk (blk_below (g := gb419) (o := .cells #[.int .i64 a3_0, .slice A3_1 l3_1.length c3_1] 43 (0, 0)) (by exact pK BK419.out) hb)
                      have n11_ := Aside0.mk (blk_below (g := gb423) (o := .cells #[.slice Ao49 x424000_1.length co49, .slice Ao50 x424001_1.length co50] 24 (0, 0)) (by exact pK BK423.out) hb)
                      have n12_ := Aside0.mk (Kd.C_below (by exact pC HR425_0.out) hb)
                      have n13_ := Aside0.mk (below_step (by exact pB HB.out) hb)
                      clear HO_0
                      clear HO_419000
                      clear HO_419001
                      clear HO_420001
                      clear HO_424000
                      clear HO_424001
                      clear HL425_0
                      clear BK418
                      clear BK419
                      clear BK423
                      clear HR425_0
                      clear HB
                      have HO_0 := n0_
                      have HO_419000 := n1_
                      have HO_419001 := n2_
                      have HO_420001 := n3_
                      have HO_424000 := n4_
                      have HO_424001 := n5_
                      have HL425_0 := n6_
                      have HO428 := n7_
                      have HO431 := n8_
                      have BK418 := n9_
                      have BK419 := n10_
                      have BK423 := n11_
                      have HR425_0 := n12_
                      have HB := n13_
                      clear n0_ n1_ n2_ n3_ n4_ n5_ n6_ n7_ n8_ n9_ n10_ n11_ n12_ n13_
                      (try clear hb)
                      (try clear hb2)
                      (try clear hk)
                      (try clear hi)
                      (try clear ho0)
                      (try clear ho1)
                      obtain ⟨Ao52, co52, eo52⟩ := Kd.V_slice HO428.out
                      (first | subst eo52 | (injection eo52 with f1_ f2_ f3_; have f4_ := f1_.symm; have f5_ := f3_.symm; clear f1_ f2_ f3_; subst f4_; subst f5_))
                      obtain ⟨Ao54, co54, eo54⟩ := Kd.R_slice HO431.out
                      (first | subst eo54 | (injection eo54 with f1_ f2_ f3_; have f4_ := f1_.symm; have f5_ := f3_.symm; clear f1_ f2_ f3_; subst f4_; subst f5_))
                      refine hK.out _ _ ⟨(blk_cell BK423.out 0).trans rfl, (blk_cell BK423.out 1).trans rfl, HS2_⟩ (fun hHeld => ?_)
                      clear hK K
                      refine norm_ (a' := ?_) ?_ ?_
                      rotate_left
                      · show Act.put _ (some 60) _ = _
                        simp only [Act.put, List.setIfInBounds_toArray, List.set_cons_zero, List.set_cons_succ, i64_w, i32_w]
                        rfl
                      refine pure_ (i := 8) (N := some 52) (v := ?_) (a' := ?_) #[true, true, true, true, true, true, true, true, true, false, false, false] rfl rfl (any_of HT_.out (by kernel_rfl)) (fun _ _ _ h => h) (Or.inl ⟨by rfl, ?_⟩) ?_ ?_
                      rotate_left
                      · intro w'
                        go_simp
                        with_reducible rfl
                      rotate_left
                      · simp only [Act.put, List.setIfInBounds_toArray, List.set_cons_zero, List.set_cons_succ, i64_w, i32_w]
                        rfl
                      refine pure_ (i := 9) (N := some 61) (v := ?_) (a' := ?_) #[true, true, true, true, true, true, true, true, true, true, false, false] rfl rfl (any_of HT_.out (by kernel_rfl)) (fun _ _ _ h => h) (Or.inl ⟨by rfl, ?_⟩) ?_ ?_
                      rotate_left
                      · intro w'
                        go_simp
                        with_reducible rfl
                      rotate_left
                      · simp only [Act.put, List.setIfInBounds_toArray, List.set_cons_zero, List.set_cons_succ, i64_w, i32_w]
                        rfl
                      refine pure_ (i := 10) (N := some 62) (v := ?_) (a' := ?_) #[true, true, true, true, true, true, true, true, true, true, true, false] rfl rfl (any_of HT_.out (by kernel_rfl)) (fun _ _ _ h => h) (Or.inl ⟨by rfl, ?_⟩) ?_ ?_
                      rotate_left
                      · intro w'
                        go_simp
                        with_reducible rfl
                      rotate_left
                      · simp only [Act.put, List.setIfInBounds_toArray, List.set_cons_zero, List.set_cons_succ, i64_w, i32_w]
                        rfl
                      refine last_ (i := 11) (N := none) #[true, true, true, true, true, true, true, true, true, true, true, true] rfl rfl (one_of HT_.out (by kernel_rfl)) (by decide) (fun K hK => ?_)
                      have hs53 : w51.cell? ⟨gb423, 0, none⟩ = some (.slice Ao49 x424000_1.length co49) := (blk_cell BK423.out 0).trans rfl
                      have hfs53 := blk_frozen BK423.out 0
                      have hns53_0 := NB418_423.out
                      have hns53_1 := NB419_423.out
                      have hms53_0 := NB423_418.out
                      have hms53_1 := NB423_419.out
                      have hs55 : w51.cell? ⟨gb423, 1, none⟩ = some (.slice Ao50 x424001_1.length co50) := (blk_cell BK423.out 1).trans rfl
                      have hfs55 := blk_frozen BK423.out 1
                      have hns55_0 := NB418_423.out
                      have hns55_1 := NB419_423.out
                      have hms55_0 := NB423_418.out
                      have hms55_1 := NB423_419.out
                      refine skip_ (w1 := ?_) (by rfl) rfl ?_ ?_
                      rotate_left
                      · go_simp
                        rfl
                      refine hK.out _ _ ?_
                      clear hK K
                      refine done_ (done_of HT_.out (by kernel_rfl)) ?_
                      try go_wp2
                      go_roundg kj25
                      case measure => have := HK1.out; have := HJ21.out; have := HJ25.out; omega
                      case rel => exact ⟨(wrap64 (x12_1 + 1)), (t426), (t429), (.slice Ao52 t426.length co52), (.slice Ao54 t429.length co54), (by first | rfl | (simp; done) | (simp [*]; done)), H', ⟨by have := HK1.out; have := HJ21.out; have := HJ25.out; omega⟩, ⟨by (with_reducible repeat (first | apply Kd.N_alloc | apply Kd.N_drewN | apply Kd.N_drew)); exact Kd.N_mono (Kd.N_far (p := ⟨gb423, 1, none⟩) (Kd.N_far (p := ⟨gb423, 0, none⟩) (Kd.N_mono HO_0.out (fun k_ hk => (⟨hk, hk.1.2.2.2.2⟩ : _ ∧ k_ ≠ gb423))) (fun _ hk => hk.2) (.slice Ao52 t426.length co52)) (fun _ hk => hk.2) (.slice Ao54 t429.length co54)) (fun _ hk => ⟨hk.1.1.1, ⟨hk.1.2, ⟨hk.1.1.2.2.1, ⟨hk.1.1.2.2.2.1, hk.1.1.2.2.2.2⟩⟩⟩⟩)⟩, ⟨by (with_reducible repeat (first | apply Kd.V_alloc | apply Kd.V_drewN | apply Kd.V_drew)); exact Kd.V_mono (Kd.V_far (p := ⟨gb423, 1, none⟩) (Kd.V_far (p := ⟨gb423, 0, none⟩) (Kd.V_mono HO_419000.out (fun k_ hk => (⟨hk, hk.1.2.2.2.2.2⟩ : _ ∧ k_ ≠ gb423))) (fun _ hk => hk.2) (.slice Ao52 t426.length co52)) (fun _ hk => hk.2) (.slice Ao54 t429.length co54)) (fun _ hk => ⟨hk.1.1.1, ⟨hk.1.1.2.1, ⟨hk.1.2, ⟨hk.1.1.2.2.2.1, ⟨hk.1.1.2.2.2.2.1, hk.1.1.2.2.2.2.2⟩⟩⟩⟩⟩)⟩, ⟨by (with_reducible repeat (first | apply Kd.V_alloc | apply Kd.V_drewN | apply Kd.V_drew)); exact Kd.V_mono (Kd.V_far (p := ⟨gb423, 1, none⟩) (Kd.V_far (p := ⟨gb423, 0, none⟩) (Kd.V_mono HO_419001.out (fun k_ hk => (⟨hk, hk.1.2.2.2.2.2⟩ : _ ∧ k_ ≠ gb423))) (fun _ hk => hk.2) (.slice Ao52 t426.length co52)) (fun _ hk => hk.2) (.slice Ao54 t429.length co54)) (fun _ hk => ⟨hk.1.1.1, ⟨hk.1.1.2.1, ⟨hk.1.2, ⟨hk.1.1.2.2.2.1, ⟨hk.1.1.2.2.2.2.1, hk.1.1.2.2.2.2.2⟩⟩⟩⟩⟩)⟩, ⟨by (with_reducible repeat (first | apply Kd.V_alloc | apply Kd.V_drewN | apply Kd.V_drew)); exact Kd.V_mono (Kd.V_far (p := ⟨gb423, 1, none⟩) (Kd.V_far (p := ⟨gb423, 0, none⟩) (Kd.V_mono HO_420001.out (fun k_ hk => (⟨hk, hk.1.2.2.2.2.2⟩ : _ ∧ k_ ≠ gb423))) (fun _ hk => hk.2) (.slice Ao52 t426.length co52)) (fun _ hk => hk.2) (.slice Ao54 t429.length co54)) (fun _ hk => ⟨hk.1.1.1, ⟨hk.1.1.2.1, ⟨hk.1.2, ⟨hk.1.1.2.2.2.1, ⟨hk.1.1.2.2.2.2.1, hk.1.1.2.2.2.2.2⟩⟩⟩⟩⟩)⟩, ⟨by (with_reducible repeat (first | apply Kd.V_alloc | apply Kd.V_drewN | apply Kd.V_drew)); exact Kd.V_mono (Kd.V_far (p := ⟨gb423, 1, none⟩) (Kd.V_far (p := ⟨gb423, 0, none⟩) (Kd.V_mono HO428.out (fun k_ hk => (⟨hk, hk.2.2.2.2.2.2⟩ : _ ∧ k_ ≠ gb423))) (fun _ hk => hk.2) (.slice Ao52 t426.length co52)) (fun _ hk => hk.2) (.slice Ao54 t429.length co54)) (fun _ hk => ⟨hk.1.1, ⟨hk.1.2.2.1, ⟨hk.1.2.1, ⟨hk.1.2.2.2.2.1, ⟨hk.1.2.2.2.2.2.1, hk.1.2.2.2.2.2.2⟩⟩⟩⟩⟩)⟩, ⟨by (with_reducible repeat (first | apply Kd.R_alloc | apply Kd.R_drewN | apply Kd.R_drew)); exact Kd.R_mono (Kd.R_far (p := ⟨gb423, 1, none⟩) (Kd.R_far (p := ⟨gb423, 0, none⟩) (Kd.R_types HO431.out BK423.out (by decide)) (fun _ hk => hk.2) (.slice Ao52 t426.length co52)) (fun _ hk => hk.2) (.slice Ao54 t429.length co54)) (fun _ hk => hk.1.1.1)⟩, ⟨by (with_reducible repeat (first | refine blk_drewN ?_ _ | refine blk_drew ?_ | refine blk_alloc ?_ _)); refine blk_far ?_ NB418_423.out _; (with_reducible repeat (first | refine blk_drewN ?_ _ | refine blk_drew ?_ | refine blk_alloc ?_ _)); refine blk_far ?_ NB418_423.out _; (with_reducible repeat (first | refine blk_drewN ?_ _ | refine blk_drew ?_ | refine blk_alloc ?_ _)); exact BK418.out⟩, ⟨by (with_reducible repeat (first | refine blk_drewN ?_ _ | refine blk_drew ?_ | refine blk_alloc ?_ _)); refine blk_far ?_ NB419_423.out _; (with_reducible repeat (first | refine blk_drewN ?_ _ | refine blk_drew ?_ | refine blk_alloc ?_ _)); refine blk_far ?_ NB419_423.out _; (with_reducible repeat (first | refine blk_drewN ?_ _ | refine blk_drew ?_ | refine blk_alloc ?_ _)); exact BK419.out⟩, ⟨by (with_reducible repeat (first | refine blk_drewN ?_ _ | refine blk_drew ?_ | refine blk_alloc ?_ _)); refine blk_put (cs := #[.slice Ao52 t426.length co52, .slice Ao50 x424001_1.length co50]) ?_ 1 _ rfl; (with_reducible repeat (first | refine blk_drewN ?_ _ | refine blk_drew ?_ | refine blk_alloc ?_ _)); refine blk_put (cs := #[.slice Ao49 x424000_1.length co49, .slice Ao50 x424001_1.length co50]) ?_ 0 _ rfl; (with_reducible repeat (first | refine blk_drewN ?_ _ | refine blk_drew ?_ | refine blk_alloc ?_ _)); exact BK423.out⟩, ⟨by repeat (first | (with_reducible first | exact HB.out | apply below_alloc | apply pw_below_drewN | apply below_drew1 | refine below_set ?_ GE418.out | refine below_set ?_ GE419.out | refine below_set ?_ GE423.out) | exact HB.out)⟩⟩
          · rw [if_neg c21] at H
            have c21b0 : decide (x12_1 < (t420.length : Int)) = false := decide_eq_false c21
            clear c21
            (first | rw [c21b0] | (simp only [i64_w, i32_w]; rw [c21b0]) | skip)
            have H' := Aside0.mk H
            clear H
            obtain ⟨Ao56, co56, eo56⟩ := Kd.N_slice HO_0.out
            subst eo56
            go_wp2
            go_meet
            case rel => exact ⟨_, (x424000_1), (x424001_1), (u424000), (u424001), H', ⟨by have := HK1.out; first | omega | exact Nat.le_refl _⟩, ⟨by exact pV (Kd.V_mono HO_419000.out (fun _ hk => ⟨hk.1, ⟨hk.2.2.2.1, ⟨hk.2.2.2.2.1, hk.2.2.2.2.2⟩⟩⟩))⟩, ⟨by exact pV (Kd.V_mono HO_419001.out (fun _ hk => ⟨hk.1, ⟨hk.2.2.2.1, ⟨hk.2.2.2.2.1, hk.2.2.2.2.2⟩⟩⟩))⟩, ⟨by exact pV (Kd.V_mono HO_420001.out (fun _ hk => ⟨hk.1, ⟨hk.2.2.2.1, ⟨hk.2.2.2.2.1, hk.2.2.2.2.2⟩⟩⟩))⟩, ⟨by exact pV (Kd.V_mono HO_424000.out (fun _ hk => ⟨hk.1, ⟨hk.2.2.2.1, ⟨hk.2.2.2.2.1, hk.2.2.2.2.2⟩⟩⟩))⟩, ⟨Kd.V_mono (Kd.R_V (by exact pR ((Kd.R_types (Kd.R_types (Kd.R_types HO_424001.out BK418.out (by decide)) BK419.out (by decide)) BK423.out (by decide))))) (fun _ hk => by exact ⟨(.inr (hk.1.1.1)), ⟨hk.1.1.2, ⟨hk.1.2, hk.2⟩⟩⟩)⟩, ⟨by exact pK BK418.out⟩, ⟨by exact pK BK419.out⟩, ⟨by exact pK BK423.out⟩, ⟨by exact pB HB.out⟩⟩
  case rest =>
    clear HC7
    try clear c1
    try clear c2
    try clear p2
    try clear c3
    try clear c4
    try clear p4
    try clear q4
    try clear hx4
    try clear p6
    try clear c9
    try clear c11
    try clear c14
    try clear c15
    try clear c16
    try clear c17
    try clear c18
    try clear c19
    try clear c21
    try clear c21b0
    try clear c24
    try clear c24b0
    try clear c25
    try clear c25b0
    try clear c27
    try clear c28
    try clear c28b0
    try clear c29
    try clear c29b0
    try clear c31
    try clear c31b0
    try clear c31b1
    try clear c34
    try clear c41
    try clear c42
    try clear p42
    try clear q42
    try clear hx42
    try clear hcz12_0
    try clear hcz12_1
    try clear hcz16_0
    try clear hcz16_1
    try clear hcz20_0
    try clear hcz20_1
    try clear hcz43_0
    try clear hcz43_1
    try clear hcz46_0
    try clear hcz46_1
    try clear hfz12_0
    try clear hfz12_1
    try clear hfz16_0
    try clear hfz16_1
    try clear hfz20_0
    try clear hfz20_1
    try clear hfz43_0
    try clear hfz43_1
    try clear hfz46_0
    try clear hfz46_1
    try clear hx424_0
    try clear hx425_0
    try clear p2
    try clear p4
    try clear p424
    try clear p425
    try clear q4
    try clear q424
    try clear q425
    obtain ⟨kq, x424000_6, x424001_6, u424000, u424001, HA, HJ6, HO_419000, HO_419001, HO_420001, HO_424000, HO_424001, BK418, BK419, BK423, HB⟩ := hcut
    cases kq with
    | zero => exact absurd HA.out (by simp [customslaw34_JournalOpen.j3])
    | succ kj6 =>
      have H := HA.out
      clear HA
      simp only [customslaw34_JournalOpen.j3] at H
      replace H := Option.bind_eq_some_iff.mp H
      obtain ⟨⟨t439, t442, t445⟩, A570, H⟩ := H
      replace H : ((customsref33_Put.f kj6 x424000_6 x424001_6 a3_0 l3_1).bind fun bt447 => ((journal_Append.f kj6 x424000_6 x424001_6 l3_1).bind fun bt455 => ((customsref33_Append.f kj6 x424000_6 x424001_6 l3_1).bind fun bt463 => (if t445 = bt447.2.2 then ((customsref33_SameDisk.f t439 t442 bt447.1 bt447.2.1).bind fun t471 => (if t471 = true then (if bt455.2.2 = bt463.2.2 then ((customsref33_SameDisk.f bt455.1 bt455.2.1 bt463.1 bt463.2.1).bind fun t472 => (customslaw34_JournalOpen.j4 kj6 (!t472) x424000_6 x424001_6)) else (customslaw34_JournalOpen.j4 kj6 true x424000_6 x424001_6)) else (customslaw34_JournalOpen.j4 kj6 true x424000_6 x424001_6))) else (customslaw34_JournalOpen.j4 kj6 true x424000_6 x424001_6))))) = some true := H
      have A57 := Aside0.mk A570
      clear A570
      replace H := Option.bind_eq_some_iff.mp H
      obtain ⟨⟨t447, t450, t453⟩, A580, H⟩ := H
      replace H : ((journal_Append.f kj6 x424000_6 x424001_6 l3_1).bind fun bt455 => ((customsref33_Append.f kj6 x424000_6 x424001_6 l3_1).bind fun bt463 => (if t445 = t453 then ((customsref33_SameDisk.f t439 t442 t447 t450).bind fun t471 => (if t471 = true then (if bt455.2.2 = bt463.2.2 then ((customsref33_SameDisk.f bt455.1 bt455.2.1 bt463.1 bt463.2.1).bind fun t472 => (customslaw34_JournalOpen.j4 kj6 (!t472) x424000_6 x424001_6)) else (customslaw34_JournalOpen.j4 kj6 true x424000_6 x424001_6)) else (customslaw34_JournalOpen.j4 kj6 true x424000_6 x424001_6))) else (customslaw34_JournalOpen.j4 kj6 true x424000_6 x424001_6)))) = some true := H
      have A58 := Aside0.mk A580
      clear A580
      replace H := Option.bind_eq_some_iff.mp H
      obtain ⟨⟨t455, t458, t461⟩, A590, H⟩ := H
      replace H : ((customsref33_Append.f kj6 x424000_6 x424001_6 l3_1).bind fun bt463 => (if t445 = t453 then ((customsref33_SameDisk.f t439 t442 t447 t450).bind fun t471 => (if t471 = true then (if t461 = bt463.2.2 then ((customsref33_SameDisk.f t455 t458 bt463.1 bt463.2.1).bind fun t472 => (customslaw34_JournalOpen.j4 kj6 (!t472) x424000_6 x424001_6)) else (customslaw34_JournalOpen.j4 kj6 true x424000_6 x424001_6)) else (customslaw34_JournalOpen.j4 kj6 true x424000_6 x424001_6))) else (customslaw34_JournalOpen.j4 kj6 true x424000_6 x424001_6))) = some true := H
      have A59 := Aside0.mk A590
      clear A590
      replace H := Option.bind_eq_some_iff.mp H
      obtain ⟨⟨t463, t466, t469⟩, A600, H⟩ := H
      replace H : (if t445 = t453 then ((customsref33_SameDisk.f t439 t442 t447 t450).bind fun t471 => (if t471 = true then (if t461 = t469 then ((customsref33_SameDisk.f t455 t458 t463 t466).bind fun t472 => (customslaw34_JournalOpen.j4 kj6 (!t472) x424000_6 x424001_6)) else (customslaw34_JournalOpen.j4 kj6 true x424000_6 x424001_6)) else (customslaw34_JournalOpen.j4 kj6 true x424000_6 x424001_6))) else (customslaw34_JournalOpen.j4 kj6 true x424000_6 x424001_6)) = some true := H
      have A60 := Aside0.mk A600
      clear A600
      have HC61 := Aside0.mk H
      clear H
      have hnb62 := NB423_418.out
      have hnc62 := NB418_423.out
      have hnb63 := NB423_419.out
      have hnc63 := NB419_423.out
      have hcz64_0 : wc.cell? ⟨gb423, 0, none⟩ = some (u424000) := (blk_cell BK423.out 0).trans rfl
      have hcz64_1 : wc.cell? ⟨gb423, 1, none⟩ = some (u424001) := (blk_cell BK423.out 1).trans rfl
      have hfz64_0 := blk_frozen BK423.out 0
      have hfz64_1 := blk_frozen BK423.out 1
      have hnb65 := NB419_418.out
      have hnc65 := NB418_419.out
      have hcz66_0 : wc.cell? ⟨gb419, 0, none⟩ = some (.int .i64 a3_0) := (blk_cell BK419.out 0).trans rfl
      have hcz66_1 : wc.cell? ⟨gb419, 1, none⟩ = some (.slice A3_1 l3_1.length c3_1) := (blk_cell BK419.out 1).trans rfl
      have hfz66_0 := blk_frozen BK419.out 0
      have hfz66_1 := blk_frozen BK419.out 1
      obtain ⟨Ao67, co67, eo67⟩ := Kd.V_slice HO_424000.out
      subst eo67
      obtain ⟨Ao68, co68, eo68⟩ := Kd.V_slice HO_424001.out
      subst eo68
      go_upto_region 18 with (first | ((with_reducible refine gate_callee (f := 35) rfl ?_); refine goesL_ (some 71) rfl rfl Try.func35 (by kernel_rfl) rfl #[.agg #[.slice Ao67 x424000_6.length co67, .slice Ao68 x424001_6.length co68], .agg #[.int .i64 a3_0, .slice A3_1 l3_1.length c3_1]] rfl (by (try simp only [List.map_toArray, List.map_cons, List.map_nil]); first | done | rfl | (simp only [List.length_drop, List.length_take]; rfl)) ?_; (with_reducible refine (journal_Put.calls kj6 _ _ x424000_6 _ _ x424001_6 a3_0 _ _ l3_1 t439 t442 t445 _ ?side1 ?side2 ?side3 ?side4 ?side5 ?side6 A57.out).mono ?_); (case side1 => exact pC (Kd.V_reads' HO_424000.out).2.2); (case side2 => exact (Kd.V_reads' HO_424000.out).2.1); (case side3 => exact pC (Kd.V_reads' HO_424001.out).2.2); (case side4 => exact (Kd.V_reads' HO_424001.out).2.1); (case side5 => exact pC (Kd.V_reads' HO_420001.out).2.2); (case side6 => exact (Kd.V_reads' HO_420001.out).2.1); rintro e w69 ⟨v440, v443, rfl, ho0, ho1, hb⟩; refine ⟨_, rfl, ?_⟩; have n0_ := Aside0.mk (Kd.V_mono (Kd.V_told (Kd.V_told (Kd.V_old (by exact pV HO_419000.out) hb) (Kd.R_base ho0)) (Kd.R_base ho1)) (fun _ h_ => h_.1)); have n1_ := Aside0.mk (Kd.V_mono (Kd.V_told (Kd.V_told (Kd.V_old (by exact pV HO_419001.out) hb) (Kd.R_base ho0)) (Kd.R_base ho1)) (fun _ h_ => h_.1)); have n2_ := Aside0.mk (Kd.V_mono (Kd.V_told (Kd.V_told (Kd.V_old (by exact pV HO_420001.out) hb) (Kd.R_base ho0)) (Kd.R_base ho1)) (fun _ h_ => h_.1)); have n3_ := Aside0.mk (Kd.V_mono (Kd.V_told (Kd.V_told (Kd.V_old (by exact pV HO_424000.out) hb) (Kd.R_base ho0)) (Kd.R_base ho1)) (fun _ h_ => h_.1)); have n4_ := Aside0.mk (Kd.V_mono (Kd.V_told (Kd.V_told (Kd.V_old (by exact pV HO_424001.out) hb) (Kd.R_base ho0)) (Kd.R_base ho1)) (fun _ h_ => h_.1)); have n5_ := Aside0.mk (Kd.R_lower (Kd.R_newM (M := fun k_ => (w.heap.size ≤ k_)) ho0 (below_size (by exact pB HB.out)) (fun k_ h_ => h_)) (below_size (by exact pB HB.out))); have n6_ := Aside0.mk (Kd.R_lower (Kd.R_newM (M := fun k_ => (w.heap.size ≤ k_)) ho1 (below_size (by exact pB HB.out)) (fun k_ h_ => h_)) (below_size (by exact pB HB.out))); have n7_ := Aside0.mk (blk_below (g := gb418) (o := .cells #[.slice A2_0 l2_0.length c2_0, .slice A2_1 l2_1.length c2_1] 24 (0, 0)) (by exact pK BK418.out) hb); have n8_ := Aside0.mk (blk_below (g := gb419) (o := .cells #[.int .i64 a3_0, .slice A3_1 l3_1.length c3_1] 43 (0, 0)) (by exact pK BK419.out) hb); have n9_ := Aside0.mk (blk_below (g := gb423) (o := .cells #[.slice Ao67 x424000_6.length co67, .slice Ao68 x424001_6.length co68] 24 (0, 0)) (by exact pK BK423.out) hb); have n10_ := Aside0.mk (below_step (by exact pB HB.out) hb); clear HO_419000; clear HO_419001; clear HO_420001; clear HO_424000; clear HO_424001; clear BK418; clear BK419; clear BK423; clear HB; have HO_419000 := n0_; have HO_419001 := n1_; have HO_420001 := n2_; have HO_424000 := n3_; have HO_424001 := n4_; have HO441 := n5_; have HO444 := n6_; have BK418 := n7_; have BK419 := n8_; have BK423 := n9_; have HB := n10_; clear n0_ n1_ n2_ n3_ n4_ n5_ n6_ n7_ n8_ n9_ n10_; (try clear hb); (try clear hb2); (try clear hk); (try clear hi); (try clear ho0); (try clear ho1)) | ((with_reducible refine gate_dst (N := 14) rfl ?_); refine box_event ?hg (N := 14) ?hd (cs := #[.slice none 0 0, .slice none 0 0]) (t := 24) ?hr ?_; (case hd => rfl); (case hg => rfl); (case hr => first | (go_simp; done) | (go_simp; rfl)); intro gb446 hg w70 hbox hb; have n0_ := Aside0.mk (Kd.V_below (Kd.V_elderB (by exact pV HO_419000.out) gb446 (Nat.le_of_eq hg.symm)) hb); have n1_ := Aside0.mk (Kd.V_below (Kd.V_elderB (by exact pV HO_419001.out) gb446 (Nat.le_of_eq hg.symm)) hb); have n2_ := Aside0.mk (Kd.V_below (Kd.V_elderB (by exact pV HO_420001.out) gb446 (Nat.le_of_eq hg.symm)) hb); have n3_ := Aside0.mk (Kd.V_below (Kd.V_elderB (by exact pV HO_424000.out) gb446 (Nat.le_of_eq hg.symm)) hb); have n4_ := Aside0.mk (Kd.V_below (Kd.V_elderB (by exact pV HO_424001.out) gb446 (Nat.le_of_eq hg.symm)) hb); have n5_ := Aside0.mk (Kd.R_below (by exact pR HO441.out) hb); have n6_ := Aside0.mk (Kd.R_below (by exact pR HO444.out) hb); have n7_ := Aside0.mk (blk_below (g := gb418) (o := .cells #[.slice A2_0 l2_0.length c2_0, .slice A2_1 l2_1.length c2_1] 24 (0, 0)) (by exact pK BK418.out) hb); have n8_ := Aside0.mk (blk_below (g := gb419) (o := .cells #[.int .i64 a3_0, .slice A3_1 l3_1.length c3_1] 43 (0, 0)) (by exact pK BK419.out) hb); have n9_ := Aside0.mk (blk_below (g := gb423) (o := .cells #[.slice Ao67 x424000_6.length co67, .slice Ao68 x424001_6.length co68] 24 (0, 0)) (by exact pK BK423.out) hb); have n10_ := Aside0.mk (below_step (by exact pB HB.out) hb); have n11_ := Aside0.mk (hbox); have n12_ := Aside0.mk ((by rw [hg]; exact (below_size (by exact pB HB.out)) : w.heap.size ≤ gb446)); have n13_ := Aside0.mk ((by rw [hg]; exact (below_size (by exact pB HB.out)) : w.heap.size ≤ gb446)); have n14_ := Aside0.mk ((by rw [hg]; exact Nat.ne_of_lt (blk_lt (g := gb418) (o := .cells #[.slice A2_0 l2_0.length c2_0, .slice A2_1 l2_1.length c2_1] 24 (0, 0)) (by exact pK BK418.out)) : gb418 ≠ gb446)); have n15_ := Aside0.mk ((by rw [hg]; exact Nat.ne_of_gt (blk_lt (g := gb418) (o := .cells #[.slice A2_0 l2_0.length c2_0, .slice A2_1 l2_1.length c2_1] 24 (0, 0)) (by exact pK BK418.out)) : gb446 ≠ gb418)); have n16_ := Aside0.mk ((by rw [hg]; exact Nat.ne_of_lt (blk_lt (g := gb419) (o := .cells #[.int .i64 a3_0, .slice A3_1 l3_1.length c3_1] 43 (0, 0)) (by exact pK BK419.out)) : gb419 ≠ gb446)); have n17_ := Aside0.mk ((by rw [hg]; exact Nat.ne_of_gt (blk_lt (g := gb419) (o := .cells #[.int .i64 a3_0, .slice A3_1 l3_1.length c3_1] 43 (0, 0)) (by exact pK BK419.out)) : gb446 ≠ gb419)); have n18_ := Aside0.mk ((by rw [hg]; exact Nat.ne_of_lt (blk_lt (g := gb423) (o := .cells #[.slice Ao67 x424000_6.length co67, .slice Ao68 x424001_6.length co68] 24 (0, 0)) (by exact pK BK423.out)) : gb423 ≠ gb446)); have n19_ := Aside0.mk ((by rw [hg]; exact Nat.ne_of_gt (blk_lt (g := gb423) (o := .cells #[.slice Ao67 x424000_6.length co67, .slice Ao68 x424001_6.length co68] 24 (0, 0)) (by exact pK BK423.out)) : gb446 ≠ gb423)); clear HO_419000; clear HO_419001; clear HO_420001; clear HO_424000; clear HO_424001; clear HO441; clear HO444; clear BK418; clear BK419; clear BK423; clear HB; have HO_419000 := n0_; have HO_419001 := n1_; have HO_420001 := n2_; have HO_424000 := n3_; have HO_424001 := n4_; have HO441 := n5_; have HO444 := n6_; have BK418 := n7_; have BK419 := n8_; have BK423 := n9_; have HB := n10_; have BK446 := n11_; have GW446 := n12_; have GE446 := n13_; have NB418_446 := n14_; have NB446_418 := n15_; have NB419_446 := n16_; have NB446_419 := n17_; have NB423_446 := n18_; have NB446_423 := n19_; clear n0_ n1_ n2_ n3_ n4_ n5_ n6_ n7_ n8_ n9_ n10_ n11_ n12_ n13_ n14_ n15_ n16_ n17_ n18_ n19_; clear hb hbox hg; obtain ⟨Ao71, co71, eo71⟩ := Kd.R_slice HO441.out; subst eo71; have hnb72 := NB446_418.out; have hnc72 := NB418_446.out; have hnb73 := NB446_419.out; have hnc73 := NB419_446.out; have hnb74 := NB446_423.out; have hnc74 := NB423_446.out; have hcz75_0 : w70.cell? ⟨gb446, 0, none⟩ = some (.slice none 0 0) := (blk_cell BK446.out 0).trans rfl; have hcz75_1 : w70.cell? ⟨gb446, 1, none⟩ = some (.slice none 0 0) := (blk_cell BK446.out 1).trans rfl; have hfz75_0 := blk_frozen BK446.out 0; have hfz75_1 := blk_frozen BK446.out 1; obtain ⟨Ao76, co76, eo76⟩ := Kd.R_slice HO444.out; subst eo76) | ((with_reducible refine gate_store (t := 24) (p := 14) rfl ?_); refine store_event (t := 24) (p := 14) (v := ?vo_w77) (w1 := ((w70.setCell ⟨gb446, 0, none⟩ (.slice Ao71 t439.length co71)).setCell ⟨gb446, 1, none⟩ (.slice Ao76 t442.length co76))) ?hg ?ho ?hn ?hr ?_; (case ho => rfl); (case hg => rfl); (case hn => rfl); (case hr => first | (go_simp; done) | (go_simp; rfl)); intro w77 hw; have n0_ : Aside0 (Kd.V (Kd.int .u8) 5 w77 w.heap.size (fun k_ => ((P0_ k_ ∨ P2_0_ k_ ∨ P2_1_ k_ ∨ P3_1_ k_) ∨ w.heap.size ≤ k_) ∧ some k_ ≠ (.slice Ao71 t439.length co71 : Value).ownBlock ∧ some k_ ≠ (.slice Ao76 t442.length co76 : Value).ownBlock ∧ k_ ≠ gb418 ∧ k_ ≠ gb419 ∧ k_ ≠ gb423 ∧ k_ ≠ gb446) (.slice A2_0 l2_0.length c2_0) l2_0) := ⟨(by rw [hw]; exact (by (with_reducible repeat (first | apply Kd.V_alloc | apply Kd.V_drewN | apply Kd.V_drew)); exact Kd.V_mono (Kd.V_far (p := ⟨gb446, 1, none⟩) (Kd.V_far (p := ⟨gb446, 0, none⟩) (Kd.V_mono HO_419000.out (fun k_ hk => (⟨hk, hk.2⟩ : _ ∧ k_ ≠ gb446))) (fun _ hk => hk.2) (.slice Ao71 t439.length co71)) (fun _ hk => hk.2) (.slice Ao76 t442.length co76)) (fun _ hk => ⟨hk.1.1.1.1.1, ⟨hk.1.1.1.2, ⟨hk.1.1.2, ⟨hk.1.1.1.1.2.1, ⟨hk.1.1.1.1.2.2.1, ⟨hk.1.1.1.1.2.2.2, hk.1.2⟩⟩⟩⟩⟩⟩)))⟩; have n1_ : Aside0 (Kd.V (Kd.int .u8) 5 w77 w.heap.size (fun k_ => ((P0_ k_ ∨ P2_0_ k_ ∨ P2_1_ k_ ∨ P3_1_ k_) ∨ w.heap.size ≤ k_) ∧ some k_ ≠ (.slice Ao71 t439.length co71 : Value).ownBlock ∧ some k_ ≠ (.slice Ao76 t442.length co76 : Value).ownBlock ∧ k_ ≠ gb418 ∧ k_ ≠ gb419 ∧ k_ ≠ gb423 ∧ k_ ≠ gb446) (.slice A2_1 l2_1.length c2_1) l2_1) := ⟨(by rw [hw]; exact (by (with_reducible repeat (first | apply Kd.V_alloc | apply Kd.V_drewN | apply Kd.V_drew)); exact Kd.V_mono (Kd.V_far (p := ⟨gb446, 1, none⟩) (Kd.V_far (p := ⟨gb446, 0, none⟩) (Kd.V_mono HO_419001.out (fun k_ hk => (⟨hk, hk.2⟩ : _ ∧ k_ ≠ gb446))) (fun _ hk => hk.2) (.slice Ao71 t439.length co71)) (fun _ hk => hk.2) (.slice Ao76 t442.length co76)) (fun _ hk => ⟨hk.1.1.1.1.1, ⟨hk.1.1.1.2, ⟨hk.1.1.2, ⟨hk.1.1.1.1.2.1, ⟨hk.1.1.1.1.2.2.1, ⟨hk.1.1.1.1.2.2.2, hk.1.2⟩⟩⟩⟩⟩⟩)))⟩; have n2_ : Aside0 (Kd.V (Kd.int .u8) 5 w77 w.heap.size (fun k_ => ((P0_ k_ ∨ P2_0_ k_ ∨ P2_1_ k_ ∨ P3_1_ k_) ∨ w.heap.size ≤ k_) ∧ some k_ ≠ (.slice Ao71 t439.length co71 : Value).ownBlock ∧ some k_ ≠ (.slice Ao76 t442.length co76 : Value).ownBlock ∧ k_ ≠ gb418 ∧ k_ ≠ gb419 ∧ k_ ≠ gb423 ∧ k_ ≠ gb446) (.slice A3_1 l3_1.length c3_1) l3_1) := ⟨(by rw [hw]; exact (by (with_reducible repeat (first | apply Kd.V_alloc | apply Kd.V_drewN | apply Kd.V_drew)); exact Kd.V_mono (Kd.V_far (p := ⟨gb446, 1, none⟩) (Kd.V_far (p := ⟨gb446, 0, none⟩) (Kd.V_mono HO_420001.out (fun k_ hk => (⟨hk, hk.2⟩ : _ ∧ k_ ≠ gb446))) (fun _ hk => hk.2) (.slice Ao71 t439.length co71)) (fun _ hk => hk.2) (.slice Ao76 t442.length co76)) (fun _ hk => ⟨hk.1.1.1.1.1, ⟨hk.1.1.1.2, ⟨hk.1.1.2, ⟨hk.1.1.1.1.2.1, ⟨hk.1.1.1.1.2.2.1, ⟨hk.1.1.1.1.2.2.2, hk.1.2⟩⟩⟩⟩⟩⟩)))⟩; have n3_ : Aside0 (Kd.V (Kd.int .u8) 5 w77 w.heap.size (fun k_ => ((P0_ k_ ∨ P2_0_ k_ ∨ P2_1_ k_ ∨ P3_1_ k_) ∨ w.heap.size ≤ k_) ∧ some k_ ≠ (.slice Ao71 t439.length co71 : Value).ownBlock ∧ some k_ ≠ (.slice Ao76 t442.length co76 : Value).ownBlock ∧ k_ ≠ gb418 ∧ k_ ≠ gb419 ∧ k_ ≠ gb423 ∧ k_ ≠ gb446) (.slice Ao67 x424000_6.length co67) x424000_6) := ⟨(by rw [hw]; exact (by (with_reducible repeat (first | apply Kd.V_alloc | apply Kd.V_drewN | apply Kd.V_drew)); exact Kd.V_mono (Kd.V_far (p := ⟨gb446, 1, none⟩) (Kd.V_far (p := ⟨gb446, 0, none⟩) (Kd.V_mono HO_424000.out (fun k_ hk => (⟨hk, hk.2⟩ : _ ∧ k_ ≠ gb446))) (fun _ hk => hk.2) (.slice Ao71 t439.length co71)) (fun _ hk => hk.2) (.slice Ao76 t442.length co76)) (fun _ hk => ⟨hk.1.1.1.1.1, ⟨hk.1.1.1.2, ⟨hk.1.1.2, ⟨hk.1.1.1.1.2.1, ⟨hk.1.1.1.1.2.2.1, ⟨hk.1.1.1.1.2.2.2, hk.1.2⟩⟩⟩⟩⟩⟩)))⟩; have n4_ : Aside0 (Kd.V (Kd.int .u8) 5 w77 w.heap.size (fun k_ => ((P0_ k_ ∨ P2_0_ k_ ∨ P2_1_ k_ ∨ P3_1_ k_) ∨ w.heap.size ≤ k_) ∧ some k_ ≠ (.slice Ao71 t439.length co71 : Value).ownBlock ∧ some k_ ≠ (.slice Ao76 t442.length co76 : Value).ownBlock ∧ k_ ≠ gb418 ∧ k_ ≠ gb419 ∧ k_ ≠ gb423 ∧ k_ ≠ gb446) (.slice Ao68 x424001_6.length co68) x424001_6) := ⟨(by rw [hw]; exact (by (with_reducible repeat (first | apply Kd.V_alloc | apply Kd.V_drewN | apply Kd.V_drew)); exact Kd.V_mono (Kd.V_far (p := ⟨gb446, 1, none⟩) (Kd.V_far (p := ⟨gb446, 0, none⟩) (Kd.V_mono HO_424001.out (fun k_ hk => (⟨hk, hk.2⟩ : _ ∧ k_ ≠ gb446))) (fun _ hk => hk.2) (.slice Ao71 t439.length co71)) (fun _ hk => hk.2) (.slice Ao76 t442.length co76)) (fun _ hk => ⟨hk.1.1.1.1.1, ⟨hk.1.1.1.2, ⟨hk.1.1.2, ⟨hk.1.1.1.1.2.1, ⟨hk.1.1.1.1.2.2.1, ⟨hk.1.1.1.1.2.2.2, hk.1.2⟩⟩⟩⟩⟩⟩)))⟩; have n5_ : Aside0 (Kd.R (Kd.int .u8) 5 w77 w.heap.size (fun k_ => (w.heap.size ≤ k_) ∧ some k_ ≠ (.slice Ao76 t442.length co76 : Value).ownBlock) (.slice Ao71 t439.length co71) t439) := ⟨(by rw [hw]; exact (by (with_reducible repeat (first | apply Kd.R_alloc | apply Kd.R_drewN | apply Kd.R_drew)); exact Kd.R_mono (Kd.R_far (p := ⟨gb446, 1, none⟩) (Kd.R_far (p := ⟨gb446, 0, none⟩) (Kd.R_types HO441.out BK446.out (by decide)) (fun _ hk => hk.2) (.slice Ao71 t439.length co71)) (fun _ hk => hk.2) (.slice Ao76 t442.length co76)) (fun _ hk => ⟨hk.1.1, hk.1.2⟩)))⟩; have n6_ : Aside0 (Kd.R (Kd.int .u8) 5 w77 w.heap.size (fun k_ => (w.heap.size ≤ k_) ∧ some k_ ≠ (.slice Ao71 t439.length co71 : Value).ownBlock) (.slice Ao76 t442.length co76) t442) := ⟨(by rw [hw]; exact (by (with_reducible repeat (first | apply Kd.R_alloc | apply Kd.R_drewN | apply Kd.R_drew)); exact Kd.R_mono (Kd.R_far (p := ⟨gb446, 1, none⟩) (Kd.R_far (p := ⟨gb446, 0, none⟩) (Kd.R_types HO444.out BK446.out (by decide)) (fun _ hk => hk.2) (.slice Ao71 t439.length co71)) (fun _ hk => hk.2) (.slice Ao76 t442.length co76)) (fun _ hk => ⟨hk.1.1, hk.1.2⟩)))⟩; have n7_ : Aside0 (w77.heap[gb418]? = some (.cells #[.slice A2_0 l2_0.length c2_0, .slice A2_1 l2_1.length c2_1] 24 (0, 0))) := ⟨(by rw [hw]; exact (by (with_reducible repeat (first | refine blk_drewN ?_ _ | refine blk_drew ?_ | refine blk_alloc ?_ _)); refine blk_far ?_ NB418_446.out _; (with_reducible repeat (first | refine blk_drewN ?_ _ | refine blk_drew ?_ | refine blk_alloc ?_ _)); refine blk_far ?_ NB418_446.out _; (with_reducible repeat (first | refine blk_drewN ?_ _ | refine blk_drew ?_ | refine blk_alloc ?_ _)); exact BK418.out))⟩; have n8_ : Aside0 (w77.heap[gb419]? = some (.cells #[.int .i64 a3_0, .slice A3_1 l3_1.length c3_1] 43 (0, 0))) := ⟨(by rw [hw]; exact (by (with_reducible repeat (first | refine blk_drewN ?_ _ | refine blk_drew ?_ | refine blk_alloc ?_ _)); refine blk_far ?_ NB419_446.out _; (with_reducible repeat (first | refine blk_drewN ?_ _ | refine blk_drew ?_ | refine blk_alloc ?_ _)); refine blk_far ?_ NB419_446.out _; (with_reducible repeat (first | refine blk_drewN ?_ _ | refine blk_drew ?_ | refine blk_alloc ?_ _)); exact BK419.out))⟩; have n9_ : Aside0 (w77.heap[gb423]? = some (.cells #[.slice Ao67 x424000_6.length co67, .slice Ao68 x424001_6.length co68] 24 (0, 0))) := ⟨(by rw [hw]; exact (by (with_reducible repeat (first | refine blk_drewN ?_ _ | refine blk_drew ?_ | refine blk_alloc ?_ _)); refine blk_far ?_ NB423_446.out _; (with_reducible repeat (first | refine blk_drewN ?_ _ | refine blk_drew ?_ | refine blk_alloc ?_ _)); refine blk_far ?_ NB423_446.out _; (with_reducible repeat (first | refine blk_drewN ?_ _ | refine blk_drew ?_ | refine blk_alloc ?_ _)); exact BK423.out))⟩; have n10_ : Aside0 (w77.heap[gb446]? = some (.cells #[.slice Ao71 t439.length co71, .slice Ao76 t442.length co76] 24 (0, 0))) := ⟨(by rw [hw]; exact (by (with_reducible repeat (first | refine blk_drewN ?_ _ | refine blk_drew ?_ | refine blk_alloc ?_ _)); refine blk_put (cs := #[.slice Ao71 t439.length co71, .slice none 0 0]) ?_ 1 _ rfl; (with_reducible repeat (first | refine blk_drewN ?_ _ | refine blk_drew ?_ | refine blk_alloc ?_ _)); refine blk_put (cs := #[.slice none 0 0, .slice none 0 0]) ?_ 0 _ rfl; (with_reducible repeat (first | refine blk_drewN ?_ _ | refine blk_drew ?_ | refine blk_alloc ?_ _)); exact BK446.out))⟩; have n11_ : Aside0 (Below w.heap.size w w77) := ⟨(by rw [hw]; exact (by repeat (first | (with_reducible first | exact HB.out | apply below_alloc | apply pw_below_drewN | apply below_drew1 | refine below_set ?_ GE418.out | refine below_set ?_ GE419.out | refine below_set ?_ GE423.out | refine below_set ?_ GE446.out) | exact HB.out)))⟩; clear hw; clear HO_419000; clear HO_419001; clear HO_420001; clear HO_424000; clear HO_424001; clear HO441; clear HO444; clear BK418; clear BK419; clear BK423; clear BK446; clear HB; have HO_419000 := n0_; have HO_419001 := n1_; have HO_420001 := n2_; have HO_424000 := n3_; have HO_424001 := n4_; have HO441 := n5_; have HO444 := n6_; have BK418 := n7_; have BK419 := n8_; have BK423 := n9_; have BK446 := n10_; have HB := n11_; clear n0_ n1_ n2_ n3_ n4_ n5_ n6_ n7_ n8_ n9_ n10_ n11_; have hcz78_0 : w77.cell? ⟨gb423, 0, none⟩ = some (.slice Ao67 x424000_6.length co67) := (blk_cell BK423.out 0).trans rfl; have hcz78_1 : w77.cell? ⟨gb423, 1, none⟩ = some (.slice Ao68 x424001_6.length co68) := (blk_cell BK423.out 1).trans rfl; have hfz78_0 := blk_frozen BK423.out 0; have hfz78_1 := blk_frozen BK423.out 1; have hcz79_0 : w77.cell? ⟨gb419, 0, none⟩ = some (.int .i64 a3_0) := (blk_cell BK419.out 0).trans rfl; have hcz79_1 : w77.cell? ⟨gb419, 1, none⟩ = some (.slice A3_1 l3_1.length c3_1) := (blk_cell BK419.out 1).trans rfl; have hfz79_0 := blk_frozen BK419.out 0; have hfz79_1 := blk_frozen BK419.out 1) | ((with_reducible refine gate_callee (f := 34) rfl ?_); refine goesL_ (some 77) rfl rfl Try.func34 (by kernel_rfl) rfl #[.agg #[.slice Ao67 x424000_6.length co67, .slice Ao68 x424001_6.length co68], .agg #[.int .i64 a3_0, .slice A3_1 l3_1.length c3_1]] rfl (by (try simp only [List.map_toArray, List.map_cons, List.map_nil]); first | done | rfl | (simp only [List.length_drop, List.length_take]; rfl)) ?_; (with_reducible refine (customsref33_Put.calls kj6 (fun k_ => (((P0_ k_ ∨ P2_0_ k_ ∨ P2_1_ k_ ∨ P3_1_ k_) ∨ w.heap.size ≤ k_) ∧ (some k_ ≠ (.slice Ao71 t439.length co71 : Value).ownBlock ∧ (some k_ ≠ (.slice Ao76 t442.length co76 : Value).ownBlock ∧ (k_ ≠ gb418 ∧ (k_ ≠ gb419 ∧ (k_ ≠ gb423 ∧ k_ ≠ gb446))))))) _ _ x424000_6 _ _ x424001_6 a3_0 _ _ l3_1 t447 t450 t453 _ ?side1 ?side2 ?side3 ?side4 ?side5 A58.out).mono ?_); (case side1 => exact HO_424000.out); (case side2 => exact pC (Kd.V_reads' HO_424001.out).2.2); (case side3 => exact (Kd.V_reads' HO_424001.out).2.1); (case side4 => exact pC (Kd.V_reads' HO_420001.out).2.2); (case side5 => exact (Kd.V_reads' HO_420001.out).2.1); rintro e w80 ⟨v448, v451, rfl, ho0, ho1, hb⟩; refine ⟨_, rfl, ?_⟩; have n0_ := Aside0.mk (Kd.V_elder' (by exact pV HO_419000.out) (Kd.R_base ho1) hb); have n1_ := Aside0.mk (Kd.V_elder' (by exact pV HO_419001.out) (Kd.R_base ho1) hb); have n2_ := Aside0.mk (Kd.V_elder' (by exact pV HO_420001.out) (Kd.R_base ho1) hb); have n3_ := Aside0.mk (Kd.V_elder' (by exact pV HO_424000.out) (Kd.R_base ho1) hb); have n4_ := Aside0.mk (Kd.V_elder' (by exact pV HO_424001.out) (Kd.R_base ho1) hb); have n5_ := Aside0.mk (Kd.R_elder' (by exact pR HO441.out) (Kd.R_base ho1) hb); have n6_ := Aside0.mk (Kd.R_elder' (by exact pR HO444.out) (Kd.R_base ho1) hb); have n7_ := Aside0.mk (Kd.V_lower (Kd.V_mono (ok' := fun k_ => ((P0_ k_ ∨ P2_0_ k_ ∨ P2_1_ k_ ∨ P3_1_ k_) ∨ w.heap.size ≤ k_) ∧ some k_ ≠ (v451 : Value).ownBlock ∧ some k_ ≠ (.slice Ao71 t439.length co71 : Value).ownBlock ∧ some k_ ≠ (.slice Ao76 t442.length co76 : Value).ownBlock ∧ k_ ≠ gb418 ∧ k_ ≠ gb419 ∧ k_ ≠ gb423 ∧ k_ ≠ gb446) ho0 (fun k_ hk_ => ⟨Or.elim hk_.1 (fun hs_ => hs_.1) (fun hn_ => (.inr (Nat.le_trans (below_size (by exact pB HB.out)) hn_))), hk_.2, Or.elim hk_.1 (fun hs_ => hs_.2.1) (fun hn_ => (Kd.fresh' (Kd.R_lt (by exact pR HO441.out)) k_ hn_)), Or.elim hk_.1 (fun hs_ => hs_.2.2.1) (fun hn_ => (Kd.fresh' (Kd.R_lt (by exact pR HO444.out)) k_ hn_)), Or.elim hk_.1 (fun hs_ => hs_.2.2.2.1) (fun hn_ => (Kd.freshB (g := gb418) (o := .cells #[.slice A2_0 l2_0.length c2_0, .slice A2_1 l2_1.length c2_1] 24 (0, 0)) (by exact pK BK418.out) k_ hn_)), Or.elim hk_.1 (fun hs_ => hs_.2.2.2.2.1) (fun hn_ => (Kd.freshB (g := gb419) (o := .cells #[.int .i64 a3_0, .slice A3_1 l3_1.length c3_1] 43 (0, 0)) (by exact pK BK419.out) k_ hn_)), Or.elim hk_.1 (fun hs_ => hs_.2.2.2.2.2.1) (fun hn_ => (Kd.freshB (g := gb423) (o := .cells #[.slice Ao67 x424000_6.length co67, .slice Ao68 x424001_6.length co68] 24 (0, 0)) (by exact pK BK423.out) k_ hn_)), Or.elim hk_.1 (fun hs_ => hs_.2.2.2.2.2.2) (fun hn_ => (Kd.freshB (g := gb446) (o := .cells #[.slice Ao71 t439.length co71, .slice Ao76 t442.length co76] 24 (0, 0)) (by exact pK BK446.out) k_ hn_))⟩)) (below_size (by exact pB HB.out))); have n8_ := Aside0.mk (Kd.R_lower (Kd.R_new' (Kd.R_new' (Kd.R_newM (M := fun k_ => (w.heap.size ≤ k_)) (Kd.R_mono (ok' := fun k_ => True) ho1 (fun _ hk_ => trivial)) (below_size (by exact pB HB.out)) (fun k_ h_ => h_)) (Kd.R_lt (by exact pR HO441.out))) (Kd.R_lt (by exact pR HO444.out))) (below_size (by exact pB HB.out))); have n9_ := Aside0.mk (blk_below (g := gb418) (o := .cells #[.slice A2_0 l2_0.length c2_0, .slice A2_1 l2_1.length c2_1] 24 (0, 0)) (by exact pK BK418.out) hb); have n10_ := Aside0.mk (blk_below (g := gb419) (o := .cells #[.int .i64 a3_0, .slice A3_1 l3_1.length c3_1] 43 (0, 0)) (by exact pK BK419.out) hb); have n11_ := Aside0.mk (blk_below (g := gb423) (o := .cells #[.slice Ao67 x424000_6.length co67, .slice Ao68 x424001_6.length co68] 24 (0, 0)) (by exact pK BK423.out) hb); have n12_ := Aside0.mk (blk_below (g := gb446) (o := .cells #[.slice Ao71 t439.length co71, .slice Ao76 t442.length co76] 24 (0, 0)) (by exact pK BK446.out) hb); have n13_ := Aside0.mk (below_step (by exact pB HB.out) hb); clear HO_419000; clear HO_419001; clear HO_420001; clear HO_424000; clear HO_424001; clear HO441; clear HO444; clear BK418; clear BK419; clear BK423; clear BK446; clear HB; have HO_419000 := n0_; have HO_419001 := n1_; have HO_420001 := n2_; have HO_424000 := n3_; have HO_424001 := n4_; have HO441 := n5_; have HO444 := n6_; have HO449 := n7_; have HO452 := n8_; have BK418 := n9_; have BK419 := n10_; have BK423 := n11_; have BK446 := n12_; have HB := n13_; clear n0_ n1_ n2_ n3_ n4_ n5_ n6_ n7_ n8_ n9_ n10_ n11_ n12_ n13_; (try clear hb); (try clear hb2); (try clear hk); (try clear hi); (try clear ho0); (try clear ho1)) | ((with_reducible refine gate_dst (N := 16) rfl ?_); refine box_event ?hg (N := 16) ?hd (cs := #[.slice none 0 0, .slice none 0 0]) (t := 24) ?hr ?_; (case hd => rfl); (case hg => rfl); (case hr => first | (go_simp; done) | (go_simp; rfl)); intro gb454 hg w81 hbox hb; have n0_ := Aside0.mk (Kd.V_below (Kd.V_elderB (by exact pV HO_419000.out) gb454 (Nat.le_of_eq hg.symm)) hb); have n1_ := Aside0.mk (Kd.V_below (Kd.V_elderB (by exact pV HO_419001.out) gb454 (Nat.le_of_eq hg.symm)) hb); have n2_ := Aside0.mk (Kd.V_below (Kd.V_elderB (by exact pV HO_420001.out) gb454 (Nat.le_of_eq hg.symm)) hb); have n3_ := Aside0.mk (Kd.V_below (Kd.V_elderB (by exact pV HO_424000.out) gb454 (Nat.le_of_eq hg.symm)) hb); have n4_ := Aside0.mk (Kd.V_below (Kd.V_elderB (by exact pV HO_424001.out) gb454 (Nat.le_of_eq hg.symm)) hb); have n5_ := Aside0.mk (Kd.R_below (by exact pR HO441.out) hb); have n6_ := Aside0.mk (Kd.R_below (by exact pR HO444.out) hb); have n7_ := Aside0.mk (Kd.V_below (Kd.V_elderB (by exact pV HO449.out) gb454 (Nat.le_of_eq hg.symm)) hb); have n8_ := Aside0.mk (Kd.R_below (by exact pR HO452.out) hb); have n9_ := Aside0.mk (blk_below (g := gb418) (o := .cells #[.slice A2_0 l2_0.length c2_0, .slice A2_1 l2_1.length c2_1] 24 (0, 0)) (by exact pK BK418.out) hb); have n10_ := Aside0.mk (blk_below (g := gb419) (o := .cells #[.int .i64 a3_0, .slice A3_1 l3_1.length c3_1] 43 (0, 0)) (by exact pK BK419.out) hb); have n11_ := Aside0.mk (blk_below (g := gb423) (o := .cells #[.slice Ao67 x424000_6.length co67, .slice Ao68 x424001_6.length co68] 24 (0, 0)) (by exact pK BK423.out) hb); have n12_ := Aside0.mk (blk_below (g := gb446) (o := .cells #[.slice Ao71 t439.length co71, .slice Ao76 t442.length co76] 24 (0, 0)) (by exact pK BK446.out) hb); have n13_ := Aside0.mk (below_step (by exact pB HB.out) hb); have n14_ := Aside0.mk (hbox); have n15_ := Aside0.mk ((by rw [hg]; exact (below_size (by exact pB HB.out)) : w.heap.size ≤ gb454)); have n16_ := Aside0.mk ((by rw [hg]; exact (below_size (by exact pB HB.out)) : w.heap.size ≤ gb454)); have n17_ := Aside0.mk ((by rw [hg]; exact Nat.ne_of_lt (blk_lt (g := gb418) (o := .cells #[.slice A2_0 l2_0.length c2_0, .slice A2_1 l2_1.length c2_1] 24 (0, 0)) (by exact pK BK418.out)) : gb418 ≠ gb454)); have n18_ := Aside0.mk ((by rw [hg]; exact Nat.ne_of_gt (blk_lt (g := gb418) (o := .cells #[.slice A2_0 l2_0.length c2_0, .slice A2_1 l2_1.length c2_1] 24 (0, 0)) (by exact pK BK418.out)) : gb454 ≠ gb418)); have n19_ := Aside0.mk ((by rw [hg]; exact Nat.ne_of_lt (blk_lt (g := gb419) (o := .cells #[.int .i64 a3_0, .slice A3_1 l3_1.length c3_1] 43 (0, 0)) (by exact pK BK419.out)) : gb419 ≠ gb454)); have n20_ := Aside0.mk ((by rw [hg]; exact Nat.ne_of_gt (blk_lt (g := gb419) (o := .cells #[.int .i64 a3_0, .slice A3_1 l3_1.length c3_1] 43 (0, 0)) (by exact pK BK419.out)) : gb454 ≠ gb419)); have n21_ := Aside0.mk ((by rw [hg]; exact Nat.ne_of_lt (blk_lt (g := gb423) (o := .cells #[.slice Ao67 x424000_6.length co67, .slice Ao68 x424001_6.length co68] 24 (0, 0)) (by exact pK BK423.out)) : gb423 ≠ gb454)); have n22_ := Aside0.mk ((by rw [hg]; exact Nat.ne_of_gt (blk_lt (g := gb423) (o := .cells #[.slice Ao67 x424000_6.length co67, .slice Ao68 x424001_6.length co68] 24 (0, 0)) (by exact pK BK423.out)) : gb454 ≠ gb423)); have n23_ := Aside0.mk ((by rw [hg]; exact Nat.ne_of_lt (blk_lt (g := gb446) (o := .cells #[.slice Ao71 t439.length co71, .slice Ao76 t442.length co76] 24 (0, 0)) (by exact pK BK446.out)) : gb446 ≠ gb454)); have n24_ := Aside0.mk ((by rw [hg]; exact Nat.ne_of_gt (blk_lt (g := gb446) (o := .cells #[.slice Ao71 t439.length co71, .slice Ao76 t442.length co76] 24 (0, 0)) (by exact pK BK446.out)) : gb454 ≠ gb446)); clear HO_419000; clear HO_419001; clear HO_420001; clear HO_424000; clear HO_424001; clear HO441; clear HO444; clear HO449; clear HO452; clear BK418; clear BK419; clear BK423; clear BK446; clear HB; have HO_419000 := n0_; have HO_419001 := n1_; have HO_420001 := n2_; have HO_424000 := n3_; have HO_424001 := n4_; have HO441 := n5_; have HO444 := n6_; have HO449 := n7_; have HO452 := n8_; have BK418 := n9_; have BK419 := n10_; have BK423 := n11_; have BK446 := n12_; have HB := n13_; have BK454 := n14_; have GW454 := n15_; have GE454 := n16_; have NB418_454 := n17_; have NB454_418 := n18_; have NB419_454 := n19_; have NB454_419 := n20_; have NB423_454 := n21_; have NB454_423 := n22_; have NB446_454 := n23_; have NB454_446 := n24_; clear n0_ n1_ n2_ n3_ n4_ n5_ n6_ n7_ n8_ n9_ n10_ n11_ n12_ n13_ n14_ n15_ n16_ n17_ n18_ n19_ n20_ n21_ n22_ n23_ n24_; clear hb hbox hg; obtain ⟨Ao82, co82, eo82⟩ := Kd.V_slice HO449.out; subst eo82; have hnb83 := NB454_418.out; have hnc83 := NB418_454.out; have hnb84 := NB454_419.out; have hnc84 := NB419_454.out; have hnb85 := NB454_423.out; have hnc85 := NB423_454.out; have hnb86 := NB454_446.out; have hnc86 := NB446_454.out; have hcz87_0 : w81.cell? ⟨gb454, 0, none⟩ = some (.slice none 0 0) := (blk_cell BK454.out 0).trans rfl; have hcz87_1 : w81.cell? ⟨gb454, 1, none⟩ = some (.slice none 0 0) := (blk_cell BK454.out 1).trans rfl; have hfz87_0 := blk_frozen BK454.out 0; have hfz87_1 := blk_frozen BK454.out 1; obtain ⟨Ao88, co88, eo88⟩ := Kd.R_slice HO452.out; subst eo88; have hcz89_0 : w81.cell? ⟨gb423, 0, none⟩ = some (.slice Ao67 x424000_6.length co67) := (blk_cell BK423.out 0).trans rfl; have hcz89_1 : w81.cell? ⟨gb423, 1, none⟩ = some (.slice Ao68 x424001_6.length co68) := (blk_cell BK423.out 1).trans rfl; have hfz89_0 := blk_frozen BK423.out 0; have hfz89_1 := blk_frozen BK423.out 1; have hcz90_0 : w81.cell? ⟨gb419, 0, none⟩ = some (.int .i64 a3_0) := (blk_cell BK419.out 0).trans rfl; have hcz90_1 : w81.cell? ⟨gb419, 1, none⟩ = some (.slice A3_1 l3_1.length c3_1) := (blk_cell BK419.out 1).trans rfl; have hfz90_0 := blk_frozen BK419.out 0; have hfz90_1 := blk_frozen BK419.out 1) | ((with_reducible refine gate_callee (f := 36) rfl ?_); refine goesL_ (some 84) rfl rfl Try.func36 (by kernel_rfl) rfl #[.agg #[.slice Ao67 x424000_6.length co67, .slice Ao68 x424001_6.length co68], .slice A3_1 l3_1.length c3_1] rfl (by (try simp only [List.map_toArray, List.map_cons, List.map_nil]); first | done | rfl | (simp only [List.length_drop, List.length_take]; rfl)) ?_; (with_reducible refine (journal_Append.calls kj6 _ _ x424000_6 _ _ x424001_6 _ _ l3_1 t455 t458 t461 _ ?side1 ?side2 ?side3 ?side4 ?side5 ?side6 A59.out).mono ?_); (case side1 => refine (Kd.V_reads' (e := 5) (base := w.heap.size) (ok := fun k_ => (((((P0_ k_ ∨ P2_0_ k_ ∨ P2_1_ k_ ∨ P3_1_ k_) ∨ w.heap.size ≤ k_) ∧ (some k_ ≠ (.slice Ao71 t439.length co71 : Value).ownBlock ∧ (some k_ ≠ (.slice Ao76 t442.length co76 : Value).ownBlock ∧ (k_ ≠ gb418 ∧ (k_ ≠ gb419 ∧ (k_ ≠ gb423 ∧ k_ ≠ gb446)))))) ∧ some k_ ≠ (.slice Ao88 t450.length co88 : Value).ownBlock) ∧ k_ ≠ gb454)) (n := x424000_6.length) (c := co67) ?_).2.2; exact (by (with_reducible repeat (first | apply Kd.V_alloc | apply Kd.V_drewN | apply Kd.V_drew)); exact (Kd.V_mono (Kd.V_far (p := ⟨gb454, 1, none⟩) (Kd.V_far (p := ⟨gb454, 0, none⟩) (Kd.V_mono HO_424000.out (fun k_ hk => (⟨hk, hk.2⟩ : _ ∧ k_ ≠ gb454))) (fun _ hk => hk.2) (.slice Ao82 t447.length co82)) (fun _ hk => hk.2) (.slice Ao88 t450.length co88)) (fun _ h_ => h_.1)))); (case side2 => exact (Kd.V_reads' HO_424000.out).2.1); (case side3 => refine (Kd.V_reads' (e := 5) (base := w.heap.size) (ok := fun k_ => (((((P0_ k_ ∨ P2_0_ k_ ∨ P2_1_ k_ ∨ P3_1_ k_) ∨ w.heap.size ≤ k_) ∧ (some k_ ≠ (.slice Ao71 t439.length co71 : Value).ownBlock ∧ (some k_ ≠ (.slice Ao76 t442.length co76 : Value).ownBlock ∧ (k_ ≠ gb418 ∧ (k_ ≠ gb419 ∧ (k_ ≠ gb423 ∧ k_ ≠ gb446)))))) ∧ some k_ ≠ (.slice Ao88 t450.length co88 : Value).ownBlock) ∧ k_ ≠ gb454)) (n := x424001_6.length) (c := co68) ?_).2.2; exact (by (with_reducible repeat (first | apply Kd.V_alloc | apply Kd.V_drewN | apply Kd.V_drew)); exact (Kd.V_mono (Kd.V_far (p := ⟨gb454, 1, none⟩) (Kd.V_far (p := ⟨gb454, 0, none⟩) (Kd.V_mono HO_424001.out (fun k_ hk => (⟨hk, hk.2⟩ : _ ∧ k_ ≠ gb454))) (fun _ hk => hk.2) (.slice Ao82 t447.length co82)) (fun _ hk => hk.2) (.slice Ao88 t450.length co88)) (fun _ h_ => h_.1)))); (case side4 => exact (Kd.V_reads' HO_424001.out).2.1); (case side5 => refine (Kd.V_reads' (e := 5) (base := w.heap.size) (ok := fun k_ => (((((P0_ k_ ∨ P2_0_ k_ ∨ P2_1_ k_ ∨ P3_1_ k_) ∨ w.heap.size ≤ k_) ∧ (some k_ ≠ (.slice Ao71 t439.length co71 : Value).ownBlock ∧ (some k_ ≠ (.slice Ao76 t442.length co76 : Value).ownBlock ∧ (k_ ≠ gb418 ∧ (k_ ≠ gb419 ∧ (k_ ≠ gb423 ∧ k_ ≠ gb446)))))) ∧ some k_ ≠ (.slice Ao88 t450.length co88 : Value).ownBlock) ∧ k_ ≠ gb454)) (n := l3_1.length) (c := c3_1) ?_).2.2; exact (by (with_reducible repeat (first | apply Kd.V_alloc | apply Kd.V_drewN | apply Kd.V_drew)); exact (Kd.V_mono (Kd.V_far (p := ⟨gb454, 1, none⟩) (Kd.V_far (p := ⟨gb454, 0, none⟩) (Kd.V_mono HO_420001.out (fun k_ hk => (⟨hk, hk.2⟩ : _ ∧ k_ ≠ gb454))) (fun _ hk => hk.2) (.slice Ao82 t447.length co82)) (fun _ hk => hk.2) (.slice Ao88 t450.length co88)) (fun _ h_ => h_.1)))); (case side6 => exact (Kd.V_reads' HO_420001.out).2.1); rintro e w91 ⟨v456, v459, rfl, ho0, ho1, hb⟩; refine ⟨_, rfl, ?_⟩; have n0_ := Aside0.mk (Kd.V_mono (Kd.V_told (Kd.V_told (Kd.V_old (by (with_reducible repeat (first | apply Kd.V_alloc | apply Kd.V_drewN | apply Kd.V_drew)); exact (Kd.V_mono (Kd.V_far (p := ⟨gb454, 1, none⟩) (Kd.V_far (p := ⟨gb454, 0, none⟩) (Kd.V_mono HO_419000.out (fun k_ hk => (⟨hk, hk.2⟩ : _ ∧ k_ ≠ gb454))) (fun _ hk => hk.2) (.slice Ao82 t447.length co82)) (fun _ hk => hk.2) (.slice Ao88 t450.length co88)) (fun _ h_ => h_.1))) hb) (Kd.R_base ho0)) (Kd.R_base ho1)) (fun _ h_ => h_.1)); have n1_ := Aside0.mk (Kd.V_mono (Kd.V_told (Kd.V_told (Kd.V_old (by (with_reducible repeat (first | apply Kd.V_alloc | apply Kd.V_drewN | apply Kd.V_drew)); exact (Kd.V_mono (Kd.V_far (p := ⟨gb454, 1, none⟩) (Kd.V_far (p := ⟨gb454, 0, none⟩) (Kd.V_mono HO_419001.out (fun k_ hk => (⟨hk, hk.2⟩ : _ ∧ k_ ≠ gb454))) (fun _ hk => hk.2) (.slice Ao82 t447.length co82)) (fun _ hk => hk.2) (.slice Ao88 t450.length co88)) (fun _ h_ => h_.1))) hb) (Kd.R_base ho0)) (Kd.R_base ho1)) (fun _ h_ => h_.1)); have n2_ := Aside0.mk (Kd.V_mono (Kd.V_told (Kd.V_told (Kd.V_old (by (with_reducible repeat (first | apply Kd.V_alloc | apply Kd.V_drewN | apply Kd.V_drew)); exact (Kd.V_mono (Kd.V_far (p := ⟨gb454, 1, none⟩) (Kd.V_far (p := ⟨gb454, 0, none⟩) (Kd.V_mono HO_420001.out (fun k_ hk => (⟨hk, hk.2⟩ : _ ∧ k_ ≠ gb454))) (fun _ hk => hk.2) (.slice Ao82 t447.length co82)) (fun _ hk => hk.2) (.slice Ao88 t450.length co88)) (fun _ h_ => h_.1))) hb) (Kd.R_base ho0)) (Kd.R_base ho1)) (fun _ h_ => h_.1)); have n3_ := Aside0.mk (Kd.V_mono (Kd.V_told (Kd.V_told (Kd.V_old (by (with_reducible repeat (first | apply Kd.V_alloc | apply Kd.V_drewN | apply Kd.V_drew)); exact (Kd.V_mono (Kd.V_far (p := ⟨gb454, 1, none⟩) (Kd.V_far (p := ⟨gb454, 0, none⟩) (Kd.V_mono HO_424000.out (fun k_ hk => (⟨hk, hk.2⟩ : _ ∧ k_ ≠ gb454))) (fun _ hk => hk.2) (.slice Ao82 t447.length co82)) (fun _ hk => hk.2) (.slice Ao88 t450.length co88)) (fun _ h_ => h_.1))) hb) (Kd.R_base ho0)) (Kd.R_base ho1)) (fun _ h_ => h_.1)); have n4_ := Aside0.mk (Kd.V_mono (Kd.V_told (Kd.V_told (Kd.V_old (by (with_reducible repeat (first | apply Kd.V_alloc | apply Kd.V_drewN | apply Kd.V_drew)); exact (Kd.V_mono (Kd.V_far (p := ⟨gb454, 1, none⟩) (Kd.V_far (p := ⟨gb454, 0, none⟩) (Kd.V_mono HO_424001.out (fun k_ hk => (⟨hk, hk.2⟩ : _ ∧ k_ ≠ gb454))) (fun _ hk => hk.2) (.slice Ao82 t447.length co82)) (fun _ hk => hk.2) (.slice Ao88 t450.length co88)) (fun _ h_ => h_.1))) hb) (Kd.R_base ho0)) (Kd.R_base ho1)) (fun _ h_ => h_.1)); have n5_ := Aside0.mk (Kd.R_mono (Kd.R_told (Kd.R_told (Kd.R_old (by (with_reducible repeat (first | apply Kd.R_alloc | apply Kd.R_drewN | apply Kd.R_drew)); exact (Kd.R_mono (Kd.R_far (p := ⟨gb454, 1, none⟩) (Kd.R_far (p := ⟨gb454, 0, none⟩) (Kd.R_types HO441.out BK454.out (by decide)) (fun _ hk => hk.2) (.slice Ao82 t447.length co82)) (fun _ hk => hk.2) (.slice Ao88 t450.length co88)) (fun _ h_ => h_.1))) hb) (Kd.R_base ho0)) (Kd.R_base ho1)) (fun _ h_ => h_.1)); have n6_ := Aside0.mk (Kd.R_mono (Kd.R_told (Kd.R_told (Kd.R_old (by (with_reducible repeat (first | apply Kd.R_alloc | apply Kd.R_drewN | apply Kd.R_drew)); exact (Kd.R_mono (Kd.R_far (p := ⟨gb454, 1, none⟩) (Kd.R_far (p := ⟨gb454, 0, none⟩) (Kd.R_types HO444.out BK454.out (by decide)) (fun _ hk => hk.2) (.slice Ao82 t447.length co82)) (fun _ hk => hk.2) (.slice Ao88 t450.length co88)) (fun _ h_ => h_.1))) hb) (Kd.R_base ho0)) (Kd.R_base ho1)) (fun _ h_ => h_.1)); have n7_ := Aside0.mk (Kd.V_mono (Kd.V_told (Kd.V_told (Kd.V_old (by (with_reducible repeat (first | apply Kd.V_alloc | apply Kd.V_drewN | apply Kd.V_drew)); exact (Kd.V_mono (Kd.V_far (p := ⟨gb454, 1, none⟩) (Kd.V_far (p := ⟨gb454, 0, none⟩) (Kd.V_mono HO449.out (fun k_ hk => (⟨hk, hk.2⟩ : _ ∧ k_ ≠ gb454))) (fun _ hk => hk.2) (.slice Ao82 t447.length co82)) (fun _ hk => hk.2) (.slice Ao88 t450.length co88)) (fun _ h_ => h_.1))) hb) (Kd.R_base ho0)) (Kd.R_base ho1)) (fun _ h_ => h_.1)); have n8_ := Aside0.mk (Kd.R_mono (Kd.R_told (Kd.R_told (Kd.R_old (by (with_reducible repeat (first | apply Kd.R_alloc | apply Kd.R_drewN | apply Kd.R_drew)); exact (Kd.R_mono (Kd.R_far (p := ⟨gb454, 1, none⟩) (Kd.R_far (p := ⟨gb454, 0, none⟩) (Kd.R_types HO452.out BK454.out (by decide)) (fun _ hk => hk.2) (.slice Ao82 t447.length co82)) (fun _ hk => hk.2) (.slice Ao88 t450.length co88)) (fun _ h_ => h_.1))) hb) (Kd.R_base ho0)) (Kd.R_base ho1)) (fun _ h_ => h_.1)); have n9_ := Aside0.mk (Kd.R_lower (Kd.R_new' (Kd.R_new' (Kd.R_new' (Kd.R_newM (M := fun k_ => (w.heap.size ≤ k_)) ho0 (below_size (by repeat (first | (with_reducible first | exact HB.out | apply below_alloc | apply pw_below_drewN | apply below_drew1 | refine below_set ?_ GE418.out | refine below_set ?_ GE419.out | refine below_set ?_ GE423.out | refine below_set ?_ GE446.out | refine below_set ?_ GE454.out) | exact HB.out))) (fun k_ h_ => h_)) (Kd.R_lt (by (with_reducible repeat (first | apply Kd.R_alloc | apply Kd.R_drewN | apply Kd.R_drew)); exact (Kd.R_mono (Kd.R_far (p := ⟨gb454, 1, none⟩) (Kd.R_far (p := ⟨gb454, 0, none⟩) (Kd.R_types HO441.out BK454.out (by decide)) (fun _ hk => hk.2) (.slice Ao82 t447.length co82)) (fun _ hk => hk.2) (.slice Ao88 t450.length co88)) (fun _ h_ => h_.1))))) (Kd.R_lt (by (with_reducible repeat (first | apply Kd.R_alloc | apply Kd.R_drewN | apply Kd.R_drew)); exact (Kd.R_mono (Kd.R_far (p := ⟨gb454, 1, none⟩) (Kd.R_far (p := ⟨gb454, 0, none⟩) (Kd.R_types HO444.out BK454.out (by decide)) (fun _ hk => hk.2) (.slice Ao82 t447.length co82)) (fun _ hk => hk.2) (.slice Ao88 t450.length co88)) (fun _ h_ => h_.1))))) (Kd.R_lt (by (with_reducible repeat (first | apply Kd.R_alloc | apply Kd.R_drewN | apply Kd.R_drew)); exact (Kd.R_mono (Kd.R_far (p := ⟨gb454, 1, none⟩) (Kd.R_far (p := ⟨gb454, 0, none⟩) (Kd.R_types HO452.out BK454.out (by decide)) (fun _ hk => hk.2) (.slice Ao82 t447.length co82)) (fun _ hk => hk.2) (.slice Ao88 t450.length co88)) (fun _ h_ => h_.1))))) (below_size (by repeat (first | (with_reducible first | exact HB.out | apply below_alloc | apply pw_below_drewN | apply below_drew1 | refine below_set ?_ GE418.out | refine below_set ?_ GE419.out | refine below_set ?_ GE423.out | refine below_set ?_ GE446.out | refine below_set ?_ GE454.out) | exact HB.out)))); have n10_ := Aside0.mk (Kd.R_lower (Kd.R_new' (Kd.R_new' (Kd.R_new' (Kd.R_newM (M := fun k_ => (w.heap.size ≤ k_)) ho1 (below_size (by repeat (first | (with_reducible first | exact HB.out | apply below_alloc | apply pw_below_drewN | apply below_drew1 | refine below_set ?_ GE418.out | refine below_set ?_ GE419.out | refine below_set ?_ GE423.out | refine below_set ?_ GE446.out | refine below_set ?_ GE454.out) | exact HB.out))) (fun k_ h_ => h_)) (Kd.R_lt (by (with_reducible repeat (first | apply Kd.R_alloc | apply Kd.R_drewN | apply Kd.R_drew)); exact (Kd.R_mono (Kd.R_far (p := ⟨gb454, 1, none⟩) (Kd.R_far (p := ⟨gb454, 0, none⟩) (Kd.R_types HO441.out BK454.out (by decide)) (fun _ hk => hk.2) (.slice Ao82 t447.length co82)) (fun _ hk => hk.2) (.slice Ao88 t450.length co88)) (fun _ h_ => h_.1))))) (Kd.R_lt (by (with_reducible repeat (first | apply Kd.R_alloc | apply Kd.R_drewN | apply Kd.R_drew)); exact (Kd.R_mono (Kd.R_far (p := ⟨gb454, 1, none⟩) (Kd.R_far (p := ⟨gb454, 0, none⟩) (Kd.R_types HO444.out BK454.out (by decide)) (fun _ hk => hk.2) (.slice Ao82 t447.length co82)) (fun _ hk => hk.2) (.slice Ao88 t450.length co88)) (fun _ h_ => h_.1))))) (Kd.R_lt (by (with_reducible repeat (first | apply Kd.R_alloc | apply Kd.R_drewN | apply Kd.R_drew)); exact (Kd.R_mono (Kd.R_far (p := ⟨gb454, 1, none⟩) (Kd.R_far (p := ⟨gb454, 0, none⟩) (Kd.R_types HO452.out BK454.out (by decide)) (fun _ hk => hk.2) (.slice Ao82 t447.length co82)) (fun _ hk => hk.2) (.slice Ao88 t450.length co88)) (fun _ h_ => h_.1))))) (below_size (by repeat (first | (with_reducible first | exact HB.out | apply below_alloc | apply pw_below_drewN | apply below_drew1 | refine below_set ?_ GE418.out | refine below_set ?_ GE419.out | refine below_set ?_ GE423.out | refine below_set ?_ GE446.out | refine below_set ?_ GE454.out) | exact HB.out)))); have n11_ := Aside0.mk (blk_below (g := gb418) (o := .cells #[.slice A2_0 l2_0.length c2_0, .slice A2_1 l2_1.length c2_1] 24 (0, 0)) (by (with_reducible repeat (first | refine blk_drewN ?_ _ | refine blk_drew ?_ | refine blk_alloc ?_ _)); refine blk_far ?_ NB418_454.out _; (with_reducible repeat (first | refine blk_drewN ?_ _ | refine blk_drew ?_ | refine blk_alloc ?_ _)); refine blk_far ?_ NB418_454.out _; (with_reducible repeat (first | refine blk_drewN ?_ _ | refine blk_drew ?_ | refine blk_alloc ?_ _)); exact BK418.out) hb); have n12_ := Aside0.mk (blk_below (g := gb419) (o := .cells #[.int .i64 a3_0, .slice A3_1 l3_1.length c3_1] 43 (0, 0)) (by (with_reducible repeat (first | refine blk_drewN ?_ _ | refine blk_drew ?_ | refine blk_alloc ?_ _)); refine blk_far ?_ NB419_454.out _; (with_reducible repeat (first | refine blk_drewN ?_ _ | refine blk_drew ?_ | refine blk_alloc ?_ _)); refine blk_far ?_ NB419_454.out _; (with_reducible repeat (first | refine blk_drewN ?_ _ | refine blk_drew ?_ | refine blk_alloc ?_ _)); exact BK419.out) hb); have n13_ := Aside0.mk (blk_below (g := gb423) (o := .cells #[.slice Ao67 x424000_6.length co67, .slice Ao68 x424001_6.length co68] 24 (0, 0)) (by (with_reducible repeat (first | refine blk_drewN ?_ _ | refine blk_drew ?_ | refine blk_alloc ?_ _)); refine blk_far ?_ NB423_454.out _; (with_reducible repeat (first | refine blk_drewN ?_ _ | refine blk_drew ?_ | refine blk_alloc ?_ _)); refine blk_far ?_ NB423_454.out _; (with_reducible repeat (first | refine blk_drewN ?_ _ | refine blk_drew ?_ | refine blk_alloc ?_ _)); exact BK423.out) hb); have n14_ := Aside0.mk (blk_below (g := gb446) (o := .cells #[.slice Ao71 t439.length co71, .slice Ao76 t442.length co76] 24 (0, 0)) (by (with_reducible repeat (first | refine blk_drewN ?_ _ | refine blk_drew ?_ | refine blk_alloc ?_ _)); refine blk_far ?_ NB446_454.out _; (with_reducible repeat (first | refine blk_drewN ?_ _ | refine blk_drew ?_ | refine blk_alloc ?_ _)); refine blk_far ?_ NB446_454.out _; (with_reducible repeat (first | refine blk_drewN ?_ _ | refine blk_drew ?_ | refine blk_alloc ?_ _)); exact BK446.out) hb); have n15_ := Aside0.mk (blk_below (g := gb454) (o := .cells #[.slice Ao82 t447.length co82, .slice Ao88 t450.length co88] 24 (0, 0)) (by (with_reducible repeat (first | refine blk_drewN ?_ _ | refine blk_drew ?_ | refine blk_alloc ?_ _)); refine blk_put (cs := #[.slice Ao82 t447.length co82, .slice none 0 0]) ?_ 1 _ rfl; (with_reducible repeat (first | refine blk_drewN ?_ _ | refine blk_drew ?_ | refine blk_alloc ?_ _)); refine blk_put (cs := #[.slice none 0 0, .slice none 0 0]) ?_ 0 _ rfl; (with_reducible repeat (first | refine blk_drewN ?_ _ | refine blk_drew ?_ | refine blk_alloc ?_ _)); exact BK454.out) hb); have n16_ := Aside0.mk (below_step (by repeat (first | (with_reducible first | exact HB.out | apply below_alloc | apply pw_below_drewN | apply below_drew1 | refine below_set ?_ GE418.out | refine below_set ?_ GE419.out | refine below_set ?_ GE423.out | refine below_set ?_ GE446.out | refine below_set ?_ GE454.out) | exact HB.out)) hb); clear HO_419000; clear HO_419001; clear HO_420001; clear HO_424000; clear HO_424001; clear HO441; clear HO444; clear HO449; clear HO452; clear BK418; clear BK419; clear BK423; clear BK446; clear BK454; clear HB; have HO_419000 := n0_; have HO_419001 := n1_; have HO_420001 := n2_; have HO_424000 := n3_; have HO_424001 := n4_; have HO441 := n5_; have HO444 := n6_; have HO449 := n7_; have HO452 := n8_; have HO457 := n9_; have HO460 := n10_; have BK418 := n11_; have BK419 := n12_; have BK423 := n13_; have BK446 := n14_; have BK454 := n15_; have HB := n16_; clear n0_ n1_ n2_ n3_ n4_ n5_ n6_ n7_ n8_ n9_ n10_ n11_ n12_ n13_ n14_ n15_ n16_; (try clear hb); (try clear hb2); (try clear hk); (try clear hi); (try clear ho0); (try clear ho1)) | ((with_reducible refine gate_dst (N := 18) rfl ?_); refine box_event ?hg (N := 18) ?hd (cs := #[.slice none 0 0, .slice none 0 0]) (t := 24) ?hr ?_; (case hd => rfl); (case hg => rfl); (case hr => first | (go_simp; done) | (go_simp; rfl)); intro gb462 hg w92 hbox hb; have n0_ := Aside0.mk (Kd.V_below (Kd.V_elderB (by exact pV HO_419000.out) gb462 (Nat.le_of_eq hg.symm)) hb); have n1_ := Aside0.mk (Kd.V_below (Kd.V_elderB (by exact pV HO_419001.out) gb462 (Nat.le_of_eq hg.symm)) hb); have n2_ := Aside0.mk (Kd.V_below (Kd.V_elderB (by exact pV HO_420001.out) gb462 (Nat.le_of_eq hg.symm)) hb); have n3_ := Aside0.mk (Kd.V_below (Kd.V_elderB (by exact pV HO_424000.out) gb462 (Nat.le_of_eq hg.symm)) hb); have n4_ := Aside0.mk (Kd.V_below (Kd.V_elderB (by exact pV HO_424001.out) gb462 (Nat.le_of_eq hg.symm)) hb); have n5_ := Aside0.mk (Kd.R_below (by exact pR HO441.out) hb); have n6_ := Aside0.mk (Kd.R_below (by exact pR HO444.out) hb); have n7_ := Aside0.mk (Kd.V_below (Kd.V_elderB (by exact pV HO449.out) gb462 (Nat.le_of_eq hg.symm)) hb); have n8_ := Aside0.mk (Kd.R_below (by exact pR HO452.out) hb); have n9_ := Aside0.mk (Kd.R_below (by exact pR HO457.out) hb); have n10_ := Aside0.mk (Kd.R_below (by exact pR HO460.out) hb); have n11_ := Aside0.mk (blk_below (g := gb418) (o := .cells #[.slice A2_0 l2_0.length c2_0, .slice A2_1 l2_1.length c2_1] 24 (0, 0)) (by exact pK BK418.out) hb); have n12_ := Aside0.mk (blk_below (g := gb419) (o := .cells #[.int .i64 a3_0, .slice A3_1 l3_1.length c3_1] 43 (0, 0)) (by exact pK BK419.out) hb); have n13_ := Aside0.mk (blk_below (g := gb423) (o := .cells #[.slice Ao67 x424000_6.length co67, .slice Ao68 x424001_6.length co68] 24 (0, 0)) (by exact pK BK423.out) hb); have n14_ := Aside0.mk (blk_below (g := gb446) (o := .cells #[.slice Ao71 t439.length co71, .slice Ao76 t442.length co76] 24 (0, 0)) (by exact pK BK446.out) hb); have n15_ := Aside0.mk (blk_below (g := gb454) (o := .cells #[.slice Ao82 t447.length co82, .slice Ao88 t450.length co88] 24 (0, 0)) (by exact pK BK454.out) hb); have n16_ := Aside0.mk (below_step (by exact pB HB.out) hb); have n17_ := Aside0.mk (hbox); have n18_ := Aside0.mk ((by rw [hg]; exact (below_size (by exact pB HB.out)) : w.heap.size ≤ gb462)); have n19_ := Aside0.mk ((by rw [hg]; exact (below_size (by exact pB HB.out)) : w.heap.size ≤ gb462)); have n20_ := Aside0.mk ((by rw [hg]; exact Nat.ne_of_lt (blk_lt (g := gb418) (o := .cells #[.slice A2_0 l2_0.length c2_0, .slice A2_1 l2_1.length c2_1] 24 (0, 0)) (by exact pK BK418.out)) : gb418 ≠ gb462)); have n21_ := Aside0.mk ((by rw [hg]; exact Nat.ne_of_gt (blk_lt (g := gb418) (o := .cells #[.slice A2_0 l2_0.length c2_0, .slice A2_1 l2_1.length c2_1] 24 (0, 0)) (by exact pK BK418.out)) : gb462 ≠ gb418)); have n22_ := Aside0.mk ((by rw [hg]; exact Nat.ne_of_lt (blk_lt (g := gb419) (o := .cells #[.int .i64 a3_0, .slice A3_1 l3_1.length c3_1] 43 (0, 0)) (by exact pK BK419.out)) : gb419 ≠ gb462)); have n23_ := Aside0.mk ((by rw [hg]; exact Nat.ne_of_gt (blk_lt (g := gb419) (o := .cells #[.int .i64 a3_0, .slice A3_1 l3_1.length c3_1] 43 (0, 0)) (by exact pK BK419.out)) : gb462 ≠ gb419)); have n24_ := Aside0.mk ((by rw [hg]; exact Nat.ne_of_lt (blk_lt (g := gb423) (o := .cells #[.slice Ao67 x424000_6.length co67, .slice Ao68 x424001_6.length co68] 24 (0, 0)) (by exact pK BK423.out)) : gb423 ≠ gb462)); have n25_ := Aside0.mk ((by rw [hg]; exact Nat.ne_of_gt (blk_lt (g := gb423) (o := .cells #[.slice Ao67 x424000_6.length co67, .slice Ao68 x424001_6.length co68] 24 (0, 0)) (by exact pK BK423.out)) : gb462 ≠ gb423)); have n26_ := Aside0.mk ((by rw [hg]; exact Nat.ne_of_lt (blk_lt (g := gb446) (o := .cells #[.slice Ao71 t439.length co71, .slice Ao76 t442.length co76] 24 (0, 0)) (by exact pK BK446.out)) : gb446 ≠ gb462)); have n27_ := Aside0.mk ((by rw [hg]; exact Nat.ne_of_gt (blk_lt (g := gb446) (o := .cells #[.slice Ao71 t439.length co71, .slice Ao76 t442.length co76] 24 (0, 0)) (by exact pK BK446.out)) : gb462 ≠ gb446)); have n28_ := Aside0.mk ((by rw [hg]; exact Nat.ne_of_lt (blk_lt (g := gb454) (o := .cells #[.slice Ao82 t447.length co82, .slice Ao88 t450.length co88] 24 (0, 0)) (by exact pK BK454.out)) : gb454 ≠ gb462)); have n29_ := Aside0.mk ((by rw [hg]; exact Nat.ne_of_gt (blk_lt (g := gb454) (o := .cells #[.slice Ao82 t447.length co82, .slice Ao88 t450.length co88] 24 (0, 0)) (by exact pK BK454.out)) : gb462 ≠ gb454)); clear HO_419000; clear HO_419001; clear HO_420001; clear HO_424000; clear HO_424001; clear HO441; clear HO444; clear HO449; clear HO452; clear HO457; clear HO460; clear BK418; clear BK419; clear BK423; clear BK446; clear BK454; clear HB; have HO_419000 := n0_; have HO_419001 := n1_; have HO_420001 := n2_; have HO_424000 := n3_; have HO_424001 := n4_; have HO441 := n5_; have HO444 := n6_; have HO449 := n7_; have HO452 := n8_; have HO457 := n9_; have HO460 := n10_; have BK418 := n11_; have BK419 := n12_; have BK423 := n13_; have BK446 := n14_; have BK454 := n15_; have HB := n16_; have BK462 := n17_; have GW462 := n18_; have GE462 := n19_; have NB418_462 := n20_; have NB462_418 := n21_; have NB419_462 := n22_; have NB462_419 := n23_; have NB423_462 := n24_; have NB462_423 := n25_; have NB446_462 := n26_; have NB462_446 := n27_; have NB454_462 := n28_; have NB462_454 := n29_; clear n0_ n1_ n2_ n3_ n4_ n5_ n6_ n7_ n8_ n9_ n10_ n11_ n12_ n13_ n14_ n15_ n16_ n17_ n18_ n19_ n20_ n21_ n22_ n23_ n24_ n25_ n26_ n27_ n28_ n29_; clear hb hbox hg; obtain ⟨Ao93, co93, eo93⟩ := Kd.R_slice HO457.out; subst eo93; have hnb94 := NB462_418.out; have hnc94 := NB418_462.out; have hnb95 := NB462_419.out; have hnc95 := NB419_462.out; have hnb96 := NB462_423.out; have hnc96 := NB423_462.out; have hnb97 := NB462_446.out; have hnc97 := NB446_462.out; have hnb98 := NB462_454.out; have hnc98 := NB454_462.out; have hcz99_0 : w92.cell? ⟨gb462, 0, none⟩ = some (.slice none 0 0) := (blk_cell BK462.out 0).trans rfl; have hcz99_1 : w92.cell? ⟨gb462, 1, none⟩ = some (.slice none 0 0) := (blk_cell BK462.out 1).trans rfl; have hfz99_0 := blk_frozen BK462.out 0; have hfz99_1 := blk_frozen BK462.out 1; obtain ⟨Ao100, co100, eo100⟩ := Kd.R_slice HO460.out; subst eo100; have hcz101_0 : w92.cell? ⟨gb423, 0, none⟩ = some (.slice Ao67 x424000_6.length co67) := (blk_cell BK423.out 0).trans rfl; have hcz101_1 : w92.cell? ⟨gb423, 1, none⟩ = some (.slice Ao68 x424001_6.length co68) := (blk_cell BK423.out 1).trans rfl; have hfz101_0 := blk_frozen BK423.out 0; have hfz101_1 := blk_frozen BK423.out 1; have hcz102_0 : w92.cell? ⟨gb419, 0, none⟩ = some (.int .i64 a3_0) := (blk_cell BK419.out 0).trans rfl; have hcz102_1 : w92.cell? ⟨gb419, 1, none⟩ = some (.slice A3_1 l3_1.length c3_1) := (blk_cell BK419.out 1).trans rfl; have hfz102_0 := blk_frozen BK419.out 0; have hfz102_1 := blk_frozen BK419.out 1) | ((with_reducible refine gate_callee (f := 37) rfl ?_); refine goesL_ (some 91) rfl rfl Try.func37 (by kernel_rfl) rfl #[.agg #[.slice Ao67 x424000_6.length co67, .slice Ao68 x424001_6.length co68], .slice A3_1 l3_1.length c3_1] rfl (by (try simp only [List.map_toArray, List.map_cons, List.map_nil]); first | done | rfl | (simp only [List.length_drop, List.length_take]; rfl)) ?_; (with_reducible refine (customsref33_Append.calls kj6 _ _ x424000_6 _ _ x424001_6 _ _ l3_1 t463 t466 t469 _ ?side1 ?side2 ?side3 ?side4 ?side5 ?side6 A60.out).mono ?_); (case side1 => refine (Kd.V_reads' (e := 5) (base := w.heap.size) (ok := fun k_ => ((((((((P0_ k_ ∨ P2_0_ k_ ∨ P2_1_ k_ ∨ P3_1_ k_) ∨ w.heap.size ≤ k_) ∧ (some k_ ≠ (.slice Ao71 t439.length co71 : Value).ownBlock ∧ (some k_ ≠ (.slice Ao76 t442.length co76 : Value).ownBlock ∧ (k_ ≠ gb418 ∧ (k_ ≠ gb419 ∧ (k_ ≠ gb423 ∧ k_ ≠ gb446)))))) ∧ some k_ ≠ (.slice Ao88 t450.length co88 : Value).ownBlock) ∧ k_ ≠ gb454) ∧ some k_ ≠ (.slice Ao93 t455.length co93 : Value).ownBlock) ∧ some k_ ≠ (.slice Ao100 t458.length co100 : Value).ownBlock) ∧ k_ ≠ gb462)) (n := x424000_6.length) (c := co67) ?_).2.2; exact (by (with_reducible repeat (first | apply Kd.V_alloc | apply Kd.V_drewN | apply Kd.V_drew)); exact (Kd.V_mono (Kd.V_far (p := ⟨gb462, 1, none⟩) (Kd.V_far (p := ⟨gb462, 0, none⟩) (Kd.V_mono HO_424000.out (fun k_ hk => (⟨hk, hk.2⟩ : _ ∧ k_ ≠ gb462))) (fun _ hk => hk.2) (.slice Ao93 t455.length co93)) (fun _ hk => hk.2) (.slice Ao100 t458.length co100)) (fun _ h_ => h_.1)))); (case side2 => exact (Kd.V_reads' HO_424000.out).2.1); (case side3 => refine (Kd.V_reads' (e := 5) (base := w.heap.size) (ok := fun k_ => ((((((((P0_ k_ ∨ P2_0_ k_ ∨ P2_1_ k_ ∨ P3_1_ k_) ∨ w.heap.size ≤ k_) ∧ (some k_ ≠ (.slice Ao71 t439.length co71 : Value).ownBlock ∧ (some k_ ≠ (.slice Ao76 t442.length co76 : Value).ownBlock ∧ (k_ ≠ gb418 ∧ (k_ ≠ gb419 ∧ (k_ ≠ gb423 ∧ k_ ≠ gb446)))))) ∧ some k_ ≠ (.slice Ao88 t450.length co88 : Value).ownBlock) ∧ k_ ≠ gb454) ∧ some k_ ≠ (.slice Ao93 t455.length co93 : Value).ownBlock) ∧ some k_ ≠ (.slice Ao100 t458.length co100 : Value).ownBlock) ∧ k_ ≠ gb462)) (n := x424001_6.length) (c := co68) ?_).2.2; exact (by (with_reducible repeat (first | apply Kd.V_alloc | apply Kd.V_drewN | apply Kd.V_drew)); exact (Kd.V_mono (Kd.V_far (p := ⟨gb462, 1, none⟩) (Kd.V_far (p := ⟨gb462, 0, none⟩) (Kd.V_mono HO_424001.out (fun k_ hk => (⟨hk, hk.2⟩ : _ ∧ k_ ≠ gb462))) (fun _ hk => hk.2) (.slice Ao93 t455.length co93)) (fun _ hk => hk.2) (.slice Ao100 t458.length co100)) (fun _ h_ => h_.1)))); (case side4 => exact (Kd.V_reads' HO_424001.out).2.1); (case side5 => refine (Kd.V_reads' (e := 5) (base := w.heap.size) (ok := fun k_ => ((((((((P0_ k_ ∨ P2_0_ k_ ∨ P2_1_ k_ ∨ P3_1_ k_) ∨ w.heap.size ≤ k_) ∧ (some k_ ≠ (.slice Ao71 t439.length co71 : Value).ownBlock ∧ (some k_ ≠ (.slice Ao76 t442.length co76 : Value).ownBlock ∧ (k_ ≠ gb418 ∧ (k_ ≠ gb419 ∧ (k_ ≠ gb423 ∧ k_ ≠ gb446)))))) ∧ some k_ ≠ (.slice Ao88 t450.length co88 : Value).ownBlock) ∧ k_ ≠ gb454) ∧ some k_ ≠ (.slice Ao93 t455.length co93 : Value).ownBlock) ∧ some k_ ≠ (.slice Ao100 t458.length co100 : Value).ownBlock) ∧ k_ ≠ gb462)) (n := l3_1.length) (c := c3_1) ?_).2.2; exact (by (with_reducible repeat (first | apply Kd.V_alloc | apply Kd.V_drewN | apply Kd.V_drew)); exact (Kd.V_mono (Kd.V_far (p := ⟨gb462, 1, none⟩) (Kd.V_far (p := ⟨gb462, 0, none⟩) (Kd.V_mono HO_420001.out (fun k_ hk => (⟨hk, hk.2⟩ : _ ∧ k_ ≠ gb462))) (fun _ hk => hk.2) (.slice Ao93 t455.length co93)) (fun _ hk => hk.2) (.slice Ao100 t458.length co100)) (fun _ h_ => h_.1)))); (case side6 => exact (Kd.V_reads' HO_420001.out).2.1); rintro e w103 ⟨v464, v467, rfl, ho0, ho1, hb⟩; refine ⟨_, rfl, ?_⟩; have n0_ := Aside0.mk (Kd.V_mono (Kd.V_told (Kd.V_told (Kd.V_old (by (with_reducible repeat (first | apply Kd.V_alloc | apply Kd.V_drewN | apply Kd.V_drew)); exact (Kd.V_mono (Kd.V_far (p := ⟨gb462, 1, none⟩) (Kd.V_far (p := ⟨gb462, 0, none⟩) (Kd.V_mono HO_419000.out (fun k_ hk => (⟨hk, hk.2⟩ : _ ∧ k_ ≠ gb462))) (fun _ hk => hk.2) (.slice Ao93 t455.length co93)) (fun _ hk => hk.2) (.slice Ao100 t458.length co100)) (fun _ h_ => h_.1))) hb) (Kd.R_base ho0)) (Kd.R_base ho1)) (fun _ h_ => h_.1)); have n1_ := Aside0.mk (Kd.V_mono (Kd.V_told (Kd.V_told (Kd.V_old (by (with_reducible repeat (first | apply Kd.V_alloc | apply Kd.V_drewN | apply Kd.V_drew)); exact (Kd.V_mono (Kd.V_far (p := ⟨gb462, 1, none⟩) (Kd.V_far (p := ⟨gb462, 0, none⟩) (Kd.V_mono HO_419001.out (fun k_ hk => (⟨hk, hk.2⟩ : _ ∧ k_ ≠ gb462))) (fun _ hk => hk.2) (.slice Ao93 t455.length co93)) (fun _ hk => hk.2) (.slice Ao100 t458.length co100)) (fun _ h_ => h_.1))) hb) (Kd.R_base ho0)) (Kd.R_base ho1)) (fun _ h_ => h_.1)); have n2_ := Aside0.mk (Kd.V_mono (Kd.V_told (Kd.V_told (Kd.V_old (by (with_reducible repeat (first | apply Kd.V_alloc | apply Kd.V_drewN | apply Kd.V_drew)); exact (Kd.V_mono (Kd.V_far (p := ⟨gb462, 1, none⟩) (Kd.V_far (p := ⟨gb462, 0, none⟩) (Kd.V_mono HO_420001.out (fun k_ hk => (⟨hk, hk.2⟩ : _ ∧ k_ ≠ gb462))) (fun _ hk => hk.2) (.slice Ao93 t455.length co93)) (fun _ hk => hk.2) (.slice Ao100 t458.length co100)) (fun _ h_ => h_.1))) hb) (Kd.R_base ho0)) (Kd.R_base ho1)) (fun _ h_ => h_.1)); have n3_ := Aside0.mk (Kd.V_mono (Kd.V_told (Kd.V_told (Kd.V_old (by (with_reducible repeat (first | apply Kd.V_alloc | apply Kd.V_drewN | apply Kd.V_drew)); exact (Kd.V_mono (Kd.V_far (p := ⟨gb462, 1, none⟩) (Kd.V_far (p := ⟨gb462, 0, none⟩) (Kd.V_mono HO_424000.out (fun k_ hk => (⟨hk, hk.2⟩ : _ ∧ k_ ≠ gb462))) (fun _ hk => hk.2) (.slice Ao93 t455.length co93)) (fun _ hk => hk.2) (.slice Ao100 t458.length co100)) (fun _ h_ => h_.1))) hb) (Kd.R_base ho0)) (Kd.R_base ho1)) (fun _ h_ => h_.1)); have n4_ := Aside0.mk (Kd.V_mono (Kd.V_told (Kd.V_told (Kd.V_old (by (with_reducible repeat (first | apply Kd.V_alloc | apply Kd.V_drewN | apply Kd.V_drew)); exact (Kd.V_mono (Kd.V_far (p := ⟨gb462, 1, none⟩) (Kd.V_far (p := ⟨gb462, 0, none⟩) (Kd.V_mono HO_424001.out (fun k_ hk => (⟨hk, hk.2⟩ : _ ∧ k_ ≠ gb462))) (fun _ hk => hk.2) (.slice Ao93 t455.length co93)) (fun _ hk => hk.2) (.slice Ao100 t458.length co100)) (fun _ h_ => h_.1))) hb) (Kd.R_base ho0)) (Kd.R_base ho1)) (fun _ h_ => h_.1)); have n5_ := Aside0.mk (Kd.R_mono (Kd.R_told (Kd.R_told (Kd.R_old (by (with_reducible repeat (first | apply Kd.R_alloc | apply Kd.R_drewN | apply Kd.R_drew)); exact (Kd.R_mono (Kd.R_far (p := ⟨gb462, 1, none⟩) (Kd.R_far (p := ⟨gb462, 0, none⟩) (Kd.R_types HO441.out BK462.out (by decide)) (fun _ hk => hk.2) (.slice Ao93 t455.length co93)) (fun _ hk => hk.2) (.slice Ao100 t458.length co100)) (fun _ h_ => h_.1))) hb) (Kd.R_base ho0)) (Kd.R_base ho1)) (fun _ h_ => h_.1)); have n6_ := Aside0.mk (Kd.R_mono (Kd.R_told (Kd.R_told (Kd.R_old (by (with_reducible repeat (first | apply Kd.R_alloc | apply Kd.R_drewN | apply Kd.R_drew)); exact (Kd.R_mono (Kd.R_far (p := ⟨gb462, 1, none⟩) (Kd.R_far (p := ⟨gb462, 0, none⟩) (Kd.R_types HO444.out BK462.out (by decide)) (fun _ hk => hk.2) (.slice Ao93 t455.length co93)) (fun _ hk => hk.2) (.slice Ao100 t458.length co100)) (fun _ h_ => h_.1))) hb) (Kd.R_base ho0)) (Kd.R_base ho1)) (fun _ h_ => h_.1)); have n7_ := Aside0.mk (Kd.V_mono (Kd.V_told (Kd.V_told (Kd.V_old (by (with_reducible repeat (first | apply Kd.V_alloc | apply Kd.V_drewN | apply Kd.V_drew)); exact (Kd.V_mono (Kd.V_far (p := ⟨gb462, 1, none⟩) (Kd.V_far (p := ⟨gb462, 0, none⟩) (Kd.V_mono HO449.out (fun k_ hk => (⟨hk, hk.2⟩ : _ ∧ k_ ≠ gb462))) (fun _ hk => hk.2) (.slice Ao93 t455.length co93)) (fun _ hk => hk.2) (.slice Ao100 t458.length co100)) (fun _ h_ => h_.1))) hb) (Kd.R_base ho0)) (Kd.R_base ho1)) (fun _ h_ => h_.1)); have n8_ := Aside0.mk (Kd.R_mono (Kd.R_told (Kd.R_told (Kd.R_old (by (with_reducible repeat (first | apply Kd.R_alloc | apply Kd.R_drewN | apply Kd.R_drew)); exact (Kd.R_mono (Kd.R_far (p := ⟨gb462, 1, none⟩) (Kd.R_far (p := ⟨gb462, 0, none⟩) (Kd.R_types HO452.out BK462.out (by decide)) (fun _ hk => hk.2) (.slice Ao93 t455.length co93)) (fun _ hk => hk.2) (.slice Ao100 t458.length co100)) (fun _ h_ => h_.1))) hb) (Kd.R_base ho0)) (Kd.R_base ho1)) (fun _ h_ => h_.1)); have n9_ := Aside0.mk (Kd.R_mono (Kd.R_told (Kd.R_told (Kd.R_old (by (with_reducible repeat (first | apply Kd.R_alloc | apply Kd.R_drewN | apply Kd.R_drew)); exact (Kd.R_mono (Kd.R_far (p := ⟨gb462, 1, none⟩) (Kd.R_far (p := ⟨gb462, 0, none⟩) (Kd.R_types HO457.out BK462.out (by decide)) (fun _ hk => hk.2) (.slice Ao93 t455.length co93)) (fun _ hk => hk.2) (.slice Ao100 t458.length co100)) (fun _ h_ => h_.1))) hb) (Kd.R_base ho0)) (Kd.R_base ho1)) (fun _ h_ => h_.1)); have n10_ := Aside0.mk (Kd.R_mono (Kd.R_told (Kd.R_told (Kd.R_old (by (with_reducible repeat (first | apply Kd.R_alloc | apply Kd.R_drewN | apply Kd.R_drew)); exact (Kd.R_mono (Kd.R_far (p := ⟨gb462, 1, none⟩) (Kd.R_far (p := ⟨gb462, 0, none⟩) (Kd.R_types HO460.out BK462.out (by decide)) (fun _ hk => hk.2) (.slice Ao93 t455.length co93)) (fun _ hk => hk.2) (.slice Ao100 t458.length co100)) (fun _ h_ => h_.1))) hb) (Kd.R_base ho0)) (Kd.R_base ho1)) (fun _ h_ => h_.1)); have n11_ := Aside0.mk (Kd.R_lower (Kd.R_new' (Kd.R_new' (Kd.R_new' (Kd.R_new' (Kd.R_new' (Kd.R_newM (M := fun k_ => (w.heap.size ≤ k_)) ho0 (below_size (by repeat (first | (with_reducible first | exact HB.out | apply below_alloc | apply pw_below_drewN | apply below_drew1 | refine below_set ?_ GE418.out | refine below_set ?_ GE419.out | refine below_set ?_ GE423.out | refine below_set ?_ GE446.out | refine below_set ?_ GE454.out | refine below_set ?_ GE462.out) | exact HB.out))) (fun k_ h_ => h_)) (Kd.R_lt (by (with_reducible repeat (first | apply Kd.R_alloc | apply Kd.R_drewN | apply Kd.R_drew)); exact (Kd.R_mono (Kd.R_far (p := ⟨gb462, 1, none⟩) (Kd.R_far (p := ⟨gb462, 0, none⟩) (Kd.R_types HO441.out BK462.out (by decide)) (fun _ hk => hk.2) (.slice Ao93 t455.length co93)) (fun _ hk => hk.2) (.slice Ao100 t458.length co100)) (fun _ h_ => h_.1))))) (Kd.R_lt (by (with_reducible repeat (first | apply Kd.R_alloc | apply Kd.R_drewN | apply Kd.R_drew)); exact (Kd.R_mono (Kd.R_far (p := ⟨gb462, 1, none⟩) (Kd.R_far (p := ⟨gb462, 0, none⟩) (Kd.R_types HO444.out BK462.out (by decide)) (fun _ hk => hk.2) (.slice Ao93 t455.length co93)) (fun _ hk => hk.2) (.slice Ao100 t458.length co100)) (fun _ h_ => h_.1))))) (Kd.R_lt (by (with_reducible repeat (first | apply Kd.R_alloc | apply Kd.R_drewN | apply Kd.R_drew)); exact (Kd.R_mono (Kd.R_far (p := ⟨gb462, 1, none⟩) (Kd.R_far (p := ⟨gb462, 0, none⟩) (Kd.R_types HO452.out BK462.out (by decide)) (fun _ hk => hk.2) (.slice Ao93 t455.length co93)) (fun _ hk => hk.2) (.slice Ao100 t458.length co100)) (fun _ h_ => h_.1))))) (Kd.R_lt (by (with_reducible repeat (first | apply Kd.R_alloc | apply Kd.R_drewN | apply Kd.R_drew)); exact (Kd.R_mono (Kd.R_far (p := ⟨gb462, 1, none⟩) (Kd.R_far (p := ⟨gb462, 0, none⟩) (Kd.R_types HO457.out BK462.out (by decide)) (fun _ hk => hk.2) (.slice Ao93 t455.length co93)) (fun _ hk => hk.2) (.slice Ao100 t458.length co100)) (fun _ h_ => h_.1))))) (Kd.R_lt (by (with_reducible repeat (first | apply Kd.R_alloc | apply Kd.R_drewN | apply Kd.R_drew)); exact (Kd.R_mono (Kd.R_far (p := ⟨gb462, 1, none⟩) (Kd.R_far (p := ⟨gb462, 0, none⟩) (Kd.R_types HO460.out BK462.out (by decide)) (fun _ hk => hk.2) (.slice Ao93 t455.length co93)) (fun _ hk => hk.2) (.slice Ao100 t458.length co100)) (fun _ h_ => h_.1))))) (below_size (by repeat (first | (with_reducible first | exact HB.out | apply below_alloc | apply pw_below_drewN | apply below_drew1 | refine below_set ?_ GE418.out | refine below_set ?_ GE419.out | refine below_set ?_ GE423.out | refine below_set ?_ GE446.out | refine below_set ?_ GE454.out | refine below_set ?_ GE462.out) | exact HB.out)))); have n12_ := Aside0.mk (Kd.R_lower (Kd.R_new' (Kd.R_new' (Kd.R_new' (Kd.R_new' (Kd.R_new' (Kd.R_newM (M := fun k_ => (w.heap.size ≤ k_)) ho1 (below_size (by repeat (first | (with_reducible first | exact HB.out | apply below_alloc | apply pw_below_drewN | apply below_drew1 | refine below_set ?_ GE418.out | refine below_set ?_ GE419.out | refine below_set ?_ GE423.out | refine below_set ?_ GE446.out | refine below_set ?_ GE454.out | refine below_set ?_ GE462.out) | exact HB.out))) (fun k_ h_ => h_)) (Kd.R_lt (by (with_reducible repeat (first | apply Kd.R_alloc | apply Kd.R_drewN | apply Kd.R_drew)); exact (Kd.R_mono (Kd.R_far (p := ⟨gb462, 1, none⟩) (Kd.R_far (p := ⟨gb462, 0, none⟩) (Kd.R_types HO441.out BK462.out (by decide)) (fun _ hk => hk.2) (.slice Ao93 t455.length co93)) (fun _ hk => hk.2) (.slice Ao100 t458.length co100)) (fun _ h_ => h_.1))))) (Kd.R_lt (by (with_reducible repeat (first | apply Kd.R_alloc | apply Kd.R_drewN | apply Kd.R_drew)); exact (Kd.R_mono (Kd.R_far (p := ⟨gb462, 1, none⟩) (Kd.R_far (p := ⟨gb462, 0, none⟩) (Kd.R_types HO444.out BK462.out (by decide)) (fun _ hk => hk.2) (.slice Ao93 t455.length co93)) (fun _ hk => hk.2) (.slice Ao100 t458.length co100)) (fun _ h_ => h_.1))))) (Kd.R_lt (by (with_reducible repeat (first | apply Kd.R_alloc | apply Kd.R_drewN | apply Kd.R_drew)); exact (Kd.R_mono (Kd.R_far (p := ⟨gb462, 1, none⟩) (Kd.R_far (p := ⟨gb462, 0, none⟩) (Kd.R_types HO452.out BK462.out (by decide)) (fun _ hk => hk.2) (.slice Ao93 t455.length co93)) (fun _ hk => hk.2) (.slice Ao100 t458.length co100)) (fun _ h_ => h_.1))))) (Kd.R_lt (by (with_reducible repeat (first | apply Kd.R_alloc | apply Kd.R_drewN | apply Kd.R_drew)); exact (Kd.R_mono (Kd.R_far (p := ⟨gb462, 1, none⟩) (Kd.R_far (p := ⟨gb462, 0, none⟩) (Kd.R_types HO457.out BK462.out (by decide)) (fun _ hk => hk.2) (.slice Ao93 t455.length co93)) (fun _ hk => hk.2) (.slice Ao100 t458.length co100)) (fun _ h_ => h_.1))))) (Kd.R_lt (by (with_reducible repeat (first | apply Kd.R_alloc | apply Kd.R_drewN | apply Kd.R_drew)); exact (Kd.R_mono (Kd.R_far (p := ⟨gb462, 1, none⟩) (Kd.R_far (p := ⟨gb462, 0, none⟩) (Kd.R_types HO460.out BK462.out (by decide)) (fun _ hk => hk.2) (.slice Ao93 t455.length co93)) (fun _ hk => hk.2) (.slice Ao100 t458.length co100)) (fun _ h_ => h_.1))))) (below_size (by repeat (first | (with_reducible first | exact HB.out | apply below_alloc | apply pw_below_drewN | apply below_drew1 | refine below_set ?_ GE418.out | refine below_set ?_ GE419.out | refine below_set ?_ GE423.out | refine below_set ?_ GE446.out | refine below_set ?_ GE454.out | refine below_set ?_ GE462.out) | exact HB.out)))); have n13_ := Aside0.mk (blk_below (g := gb418) (o := .cells #[.slice A2_0 l2_0.length c2_0, .slice A2_1 l2_1.length c2_1] 24 (0, 0)) (by (with_reducible repeat (first | refine blk_drewN ?_ _ | refine blk_drew ?_ | refine blk_alloc ?_ _)); refine blk_far ?_ NB418_462.out _; (with_reducible repeat (first | refine blk_drewN ?_ _ | refine blk_drew ?_ | refine blk_alloc ?_ _)); refine blk_far ?_ NB418_462.out _; (with_reducible repeat (first | refine blk_drewN ?_ _ | refine blk_drew ?_ | refine blk_alloc ?_ _)); exact BK418.out) hb); have n14_ := Aside0.mk (blk_below (g := gb419) (o := .cells #[.int .i64 a3_0, .slice A3_1 l3_1.length c3_1] 43 (0, 0)) (by (with_reducible repeat (first | refine blk_drewN ?_ _ | refine blk_drew ?_ | refine blk_alloc ?_ _)); refine blk_far ?_ NB419_462.out _; (with_reducible repeat (first | refine blk_drewN ?_ _ | refine blk_drew ?_ | refine blk_alloc ?_ _)); refine blk_far ?_ NB419_462.out _; (with_reducible repeat (first | refine blk_drewN ?_ _ | refine blk_drew ?_ | refine blk_alloc ?_ _)); exact BK419.out) hb); have n15_ := Aside0.mk (blk_below (g := gb423) (o := .cells #[.slice Ao67 x424000_6.length co67, .slice Ao68 x424001_6.length co68] 24 (0, 0)) (by (with_reducible repeat (first | refine blk_drewN ?_ _ | refine blk_drew ?_ | refine blk_alloc ?_ _)); refine blk_far ?_ NB423_462.out _; (with_reducible repeat (first | refine blk_drewN ?_ _ | refine blk_drew ?_ | refine blk_alloc ?_ _)); refine blk_far ?_ NB423_462.out _; (with_reducible repeat (first | refine blk_drewN ?_ _ | refine blk_drew ?_ | refine blk_alloc ?_ _)); exact BK423.out) hb); have n16_ := Aside0.mk (blk_below (g := gb446) (o := .cells #[.slice Ao71 t439.length co71, .slice Ao76 t442.length co76] 24 (0, 0)) (by (with_reducible repeat (first | refine blk_drewN ?_ _ | refine blk_drew ?_ | refine blk_alloc ?_ _)); refine blk_far ?_ NB446_462.out _; (with_reducible repeat (first | refine blk_drewN ?_ _ | refine blk_drew ?_ | refine blk_alloc ?_ _)); refine blk_far ?_ NB446_462.out _; (with_reducible repeat (first | refine blk_drewN ?_ _ | refine blk_drew ?_ | refine blk_alloc ?_ _)); exact BK446.out) hb); have n17_ := Aside0.mk (blk_below (g := gb454) (o := .cells #[.slice Ao82 t447.length co82, .slice Ao88 t450.length co88] 24 (0, 0)) (by (with_reducible repeat (first | refine blk_drewN ?_ _ | refine blk_drew ?_ | refine blk_alloc ?_ _)); refine blk_far ?_ NB454_462.out _; (with_reducible repeat (first | refine blk_drewN ?_ _ | refine blk_drew ?_ | refine blk_alloc ?_ _)); refine blk_far ?_ NB454_462.out _; (with_reducible repeat (first | refine blk_drewN ?_ _ | refine blk_drew ?_ | refine blk_alloc ?_ _)); exact BK454.out) hb); have n18_ := Aside0.mk (blk_below (g := gb462) (o := .cells #[.slice Ao93 t455.length co93, .slice Ao100 t458.length co100] 24 (0, 0)) (by (with_reducible repeat (first | refine blk_drewN ?_ _ | refine blk_drew ?_ | refine blk_alloc ?_ _)); refine blk_put (cs := #[.slice Ao93 t455.length co93, .slice none 0 0]) ?_ 1 _ rfl; (with_reducible repeat (first | refine blk_drewN ?_ _ | refine blk_drew ?_ | refine blk_alloc ?_ _)); refine blk_put (cs := #[.slice none 0 0, .slice none 0 0]) ?_ 0 _ rfl; (with_reducible repeat (first | refine blk_drewN ?_ _ | refine blk_drew ?_ | refine blk_alloc ?_ _)); exact BK462.out) hb); have n19_ := Aside0.mk (below_step (by repeat (first | (with_reducible first | exact HB.out | apply below_alloc | apply pw_below_drewN | apply below_drew1 | refine below_set ?_ GE418.out | refine below_set ?_ GE419.out | refine below_set ?_ GE423.out | refine below_set ?_ GE446.out | refine below_set ?_ GE454.out | refine below_set ?_ GE462.out) | exact HB.out)) hb); clear HO_419000; clear HO_419001; clear HO_420001; clear HO_424000; clear HO_424001; clear HO441; clear HO444; clear HO449; clear HO452; clear HO457; clear HO460; clear BK418; clear BK419; clear BK423; clear BK446; clear BK454; clear BK462; clear HB; have HO_419000 := n0_; have HO_419001 := n1_; have HO_420001 := n2_; have HO_424000 := n3_; have HO_424001 := n4_; have HO441 := n5_; have HO444 := n6_; have HO449 := n7_; have HO452 := n8_; have HO457 := n9_; have HO460 := n10_; have HO465 := n11_; have HO468 := n12_; have BK418 := n13_; have BK419 := n14_; have BK423 := n15_; have BK446 := n16_; have BK454 := n17_; have BK462 := n18_; have HB := n19_; clear n0_ n1_ n2_ n3_ n4_ n5_ n6_ n7_ n8_ n9_ n10_ n11_ n12_ n13_ n14_ n15_ n16_ n17_ n18_ n19_; (try clear hb); (try clear hb2); (try clear hk); (try clear hi); (try clear ho0); (try clear ho1)) | ((with_reducible refine gate_dst (N := 20) rfl ?_); refine box_event ?hg (N := 20) ?hd (cs := #[.slice none 0 0, .slice none 0 0]) (t := 24) ?hr ?_; (case hd => rfl); (case hg => rfl); (case hr => first | (go_simp; done) | (go_simp; rfl)); intro gb470 hg w104 hbox hb; have n0_ := Aside0.mk (Kd.V_below (Kd.V_elderB (by exact pV HO_419000.out) gb470 (Nat.le_of_eq hg.symm)) hb); have n1_ := Aside0.mk (Kd.V_below (Kd.V_elderB (by exact pV HO_419001.out) gb470 (Nat.le_of_eq hg.symm)) hb); have n2_ := Aside0.mk (Kd.V_below (Kd.V_elderB (by exact pV HO_420001.out) gb470 (Nat.le_of_eq hg.symm)) hb); have n3_ := Aside0.mk (Kd.V_below (Kd.V_elderB (by exact pV HO_424000.out) gb470 (Nat.le_of_eq hg.symm)) hb); have n4_ := Aside0.mk (Kd.V_below (Kd.V_elderB (by exact pV HO_424001.out) gb470 (Nat.le_of_eq hg.symm)) hb); have n5_ := Aside0.mk (Kd.R_below (by exact pR HO441.out) hb); have n6_ := Aside0.mk (Kd.R_below (by exact pR HO444.out) hb); have n7_ := Aside0.mk (Kd.V_below (Kd.V_elderB (by exact pV HO449.out) gb470 (Nat.le_of_eq hg.symm)) hb); have n8_ := Aside0.mk (Kd.R_below (by exact pR HO452.out) hb); have n9_ := Aside0.mk (Kd.R_below (by exact pR HO457.out) hb); have n10_ := Aside0.mk (Kd.R_below (by exact pR HO460.out) hb); have n11_ := Aside0.mk (Kd.R_below (by exact pR HO465.out) hb); have n12_ := Aside0.mk (Kd.R_below (by exact pR HO468.out) hb); have n13_ := Aside0.mk (blk_below (g := gb418) (o := .cells #[.slice A2_0 l2_0.length c2_0, .slice A2_1 l2_1.length c2_1] 24 (0, 0)) (by exact pK BK418.out) hb); have n14_ := Aside0.mk (blk_below (g := gb419) (o := .cells #[.int .i64 a3_0, .slice A3_1 l3_1.length c3_1] 43 (0, 0)) (by exact pK BK419.out) hb); have n15_ := Aside0.mk (blk_below (g := gb423) (o := .cells #[.slice Ao67 x424000_6.length co67, .slice Ao68 x424001_6.length co68] 24 (0, 0)) (by exact pK BK423.out) hb); have n16_ := Aside0.mk (blk_below (g := gb446) (o := .cells #[.slice Ao71 t439.length co71, .slice Ao76 t442.length co76] 24 (0, 0)) (by exact pK BK446.out) hb); have n17_ := Aside0.mk (blk_below (g := gb454) (o := .cells #[.slice Ao82 t447.length co82, .slice Ao88 t450.length co88] 24 (0, 0)) (by exact pK BK454.out) hb); have n18_ := Aside0.mk (blk_below (g := gb462) (o := .cells #[.slice Ao93 t455.length co93, .slice Ao100 t458.length co100] 24 (0, 0)) (by exact pK BK462.out) hb); have n19_ := Aside0.mk (below_step (by exact pB HB.out) hb); have n20_ := Aside0.mk (hbox); have n21_ := Aside0.mk ((by rw [hg]; exact (below_size (by exact pB HB.out)) : w.heap.size ≤ gb470)); have n22_ := Aside0.mk ((by rw [hg]; exact (below_size (by exact pB HB.out)) : w.heap.size ≤ gb470)); have n23_ := Aside0.mk ((by rw [hg]; exact Nat.ne_of_lt (blk_lt (g := gb418) (o := .cells #[.slice A2_0 l2_0.length c2_0, .slice A2_1 l2_1.length c2_1] 24 (0, 0)) (by exact pK BK418.out)) : gb418 ≠ gb470)); have n24_ := Aside0.mk ((by rw [hg]; exact Nat.ne_of_gt (blk_lt (g := gb418) (o := .cells #[.slice A2_0 l2_0.length c2_0, .slice A2_1 l2_1.length c2_1] 24 (0, 0)) (by exact pK BK418.out)) : gb470 ≠ gb418)); have n25_ := Aside0.mk ((by rw [hg]; exact Nat.ne_of_lt (blk_lt (g := gb419) (o := .cells #[.int .i64 a3_0, .slice A3_1 l3_1.length c3_1] 43 (0, 0)) (by exact pK BK419.out)) : gb419 ≠ gb470)); have n26_ := Aside0.mk ((by rw [hg]; exact Nat.ne_of_gt (blk_lt (g := gb419) (o := .cells #[.int .i64 a3_0, .slice A3_1 l3_1.length c3_1] 43 (0, 0)) (by exact pK BK419.out)) : gb470 ≠ gb419)); have n27_ := Aside0.mk ((by rw [hg]; exact Nat.ne_of_lt (blk_lt (g := gb423) (o := .cells #[.slice Ao67 x424000_6.length co67, .slice Ao68 x424001_6.length co68] 24 (0, 0)) (by exact pK BK423.out)) : gb423 ≠ gb470)); have n28_ := Aside0.mk ((by rw [hg]; exact Nat.ne_of_gt (blk_lt (g := gb423) (o := .cells #[.slice Ao67 x424000_6.length co67, .slice Ao68 x424001_6.length co68] 24 (0, 0)) (by exact pK BK423.out)) : gb470 ≠ gb423)); have n29_ := Aside0.mk ((by rw [hg]; exact Nat.ne_of_lt (blk_lt (g := gb446) (o := .cells #[.slice Ao71 t439.length co71, .slice Ao76 t442.length co76] 24 (0, 0)) (by exact pK BK446.out)) : gb446 ≠ gb470)); have n30_ := Aside0.mk ((by rw [hg]; exact Nat.ne_of_gt (blk_lt (g := gb446) (o := .cells #[.slice Ao71 t439.length co71, .slice Ao76 t442.length co76] 24 (0, 0)) (by exact pK BK446.out)) : gb470 ≠ gb446)); have n31_ := Aside0.mk ((by rw [hg]; exact Nat.ne_of_lt (blk_lt (g := gb454) (o := .cells #[.slice Ao82 t447.length co82, .slice Ao88 t450.length co88] 24 (0, 0)) (by exact pK BK454.out)) : gb454 ≠ gb470)); have n32_ := Aside0.mk ((by rw [hg]; exact Nat.ne_of_gt (blk_lt (g := gb454) (o := .cells #[.slice Ao82 t447.length co82, .slice Ao88 t450.length co88] 24 (0, 0)) (by exact pK BK454.out)) : gb470 ≠ gb454)); have n33_ := Aside0.mk ((by rw [hg]; exact Nat.ne_of_lt (blk_lt (g := gb462) (o := .cells #[.slice Ao93 t455.length co93, .slice Ao100 t458.length co100] 24 (0, 0)) (by exact pK BK462.out)) : gb462 ≠ gb470)); have n34_ := Aside0.mk ((by rw [hg]; exact Nat.ne_of_gt (blk_lt (g := gb462) (o := .cells #[.slice Ao93 t455.length co93, .slice Ao100 t458.length co100] 24 (0, 0)) (by exact pK BK462.out)) : gb470 ≠ gb462)); clear HO_419000; clear HO_419001; clear HO_420001; clear HO_424000; clear HO_424001; clear HO441; clear HO444; clear HO449; clear HO452; clear HO457; clear HO460; clear HO465; clear HO468; clear BK418; clear BK419; clear BK423; clear BK446; clear BK454; clear BK462; clear HB; have HO_419000 := n0_; have HO_419001 := n1_; have HO_420001 := n2_; have HO_424000 := n3_; have HO_424001 := n4_; have HO441 := n5_; have HO444 := n6_; have HO449 := n7_; have HO452 := n8_; have HO457 := n9_; have HO460 := n10_; have HO465 := n11_; have HO468 := n12_; have BK418 := n13_; have BK419 := n14_; have BK423 := n15_; have BK446 := n16_; have BK454 := n17_; have BK462 := n18_; have HB := n19_; have BK470 := n20_; have GW470 := n21_; have GE470 := n22_; have NB418_470 := n23_; have NB470_418 := n24_; have NB419_470 := n25_; have NB470_419 := n26_; have NB423_470 := n27_; have NB470_423 := n28_; have NB446_470 := n29_; have NB470_446 := n30_; have NB454_470 := n31_; have NB470_454 := n32_; have NB462_470 := n33_; have NB470_462 := n34_; clear n0_ n1_ n2_ n3_ n4_ n5_ n6_ n7_ n8_ n9_ n10_ n11_ n12_ n13_ n14_ n15_ n16_ n17_ n18_ n19_ n20_ n21_ n22_ n23_ n24_ n25_ n26_ n27_ n28_ n29_ n30_ n31_ n32_ n33_ n34_; clear hb hbox hg; obtain ⟨Ao105, co105, eo105⟩ := Kd.R_slice HO465.out; subst eo105; have hnb106 := NB470_418.out; have hnc106 := NB418_470.out; have hnb107 := NB470_419.out; have hnc107 := NB419_470.out; have hnb108 := NB470_423.out; have hnc108 := NB423_470.out; have hnb109 := NB470_446.out; have hnc109 := NB446_470.out; have hnb110 := NB470_454.out; have hnc110 := NB454_470.out; have hnb111 := NB470_462.out; have hnc111 := NB462_470.out; have hcz112_0 : w104.cell? ⟨gb470, 0, none⟩ = some (.slice none 0 0) := (blk_cell BK470.out 0).trans rfl; have hcz112_1 : w104.cell? ⟨gb470, 1, none⟩ = some (.slice none 0 0) := (blk_cell BK470.out 1).trans rfl; have hfz112_0 := blk_frozen BK470.out 0; have hfz112_1 := blk_frozen BK470.out 1; obtain ⟨Ao113, co113, eo113⟩ := Kd.R_slice HO468.out; subst eo113))
      (try simp only [Act.put, List.setIfInBounds_toArray, List.set_cons_zero, List.set_cons_succ])
      go_cut [113] (fun v113 wc => ∃ (kq : Nat) (x113_60 : Bool), v113 = .bool x113_60 ∧ Aside0 (customslaw34_JournalOpen.j4 kq x113_60 x424000_6 x424001_6 = some true) ∧ Aside0 (kq ≤ kj6) ∧ Aside0 (Kd.V (Kd.int .u8) 5 wc w.heap.size (fun k_ => ((P0_ k_ ∨ P2_0_ k_ ∨ P2_1_ k_ ∨ P3_1_ k_) ∨ w.heap.size ≤ k_) ∧ k_ ≠ gb423) (.slice Ao67 x424000_6.length co67) x424000_6) ∧ Aside0 (Kd.V (Kd.int .u8) 5 wc w.heap.size (fun k_ => ((P0_ k_ ∨ P2_0_ k_ ∨ P2_1_ k_ ∨ P3_1_ k_) ∨ w.heap.size ≤ k_) ∧ k_ ≠ gb423) (.slice Ao68 x424001_6.length co68) x424001_6) ∧ Aside0 (wc.heap[gb423]? = some (.cells #[(.slice Ao67 x424000_6.length co67), (.slice Ao68 x424001_6.length co68)] 24 (0, 0))) ∧ Aside0 (Below w.heap.size w wc))
      case first =>
        have H := HC61.out
        clear HC61
        by_cases c114 : t445 = t453
        · rw [if_pos c114] at H
          have c114b0 : (t445 == t453) = true := beq_iff_eq.mpr c114
          have c114b1 : (t445 != t453) = false := bne_eq_false_iff_eq.mpr c114
          clear c114
          (first | rw [c114b0] | (simp only [i64_w, i32_w]; rw [c114b0]) | skip)
          replace H := Option.bind_eq_some_iff.mp H
          obtain ⟨t471, A1150, H⟩ := H
          replace H : (if t471 = true then (if t461 = t469 then ((customsref33_SameDisk.f t455 t458 t463 t466).bind fun t472 => (customslaw34_JournalOpen.j4 kj6 (!t472) x424000_6 x424001_6)) else (customslaw34_JournalOpen.j4 kj6 true x424000_6 x424001_6)) else (customslaw34_JournalOpen.j4 kj6 true x424000_6 x424001_6)) = some true := H
          have A115 := Aside0.mk A1150
          clear A1150
          by_cases c116 : t471 = true
          · subst c116
            have H1 : (if t461 = t469 then ((customsref33_SameDisk.f t455 t458 t463 t466).bind fun t472 => (customslaw34_JournalOpen.j4 kj6 (!t472) x424000_6 x424001_6)) else (customslaw34_JournalOpen.j4 kj6 true x424000_6 x424001_6)) = some true := by rw [if_pos rfl] at H; exact H
            clear H
            have H := H1
            clear H1
            by_cases c117 : t461 = t469
            · rw [if_pos c117] at H
              have c117b0 : (t461 == t469) = true := beq_iff_eq.mpr c117
              have c117b1 : (t461 != t469) = false := bne_eq_false_iff_eq.mpr c117
              clear c117
              replace H := Option.bind_eq_some_iff.mp H
              obtain ⟨t472, A1180, H⟩ := H
              replace H : (customslaw34_JournalOpen.j4 kj6 (!t472) x424000_6 x424001_6) = some true := H
              have A118 := Aside0.mk A1180
              clear A1180
              have H' := Aside0.mk H
              clear H
              have hnb119 := NB446_418.out
              have hnc119 := NB418_446.out
              have hnb120 := NB446_419.out
              have hnc120 := NB419_446.out
              have hnb121 := NB446_423.out
              have hnc121 := NB423_446.out
              have hnb122 := NB446_454.out
              have hnc122 := NB454_446.out
              have hnb123 := NB446_462.out
              have hnc123 := NB462_446.out
              have hnb124 := NB446_470.out
              have hnc124 := NB470_446.out
              have hcz125_0 : w104.cell? ⟨gb446, 0, none⟩ = some (.slice Ao71 t439.length co71) := (blk_cell BK446.out 0).trans rfl
              have hcz125_1 : w104.cell? ⟨gb446, 1, none⟩ = some (.slice Ao76 t442.length co76) := (blk_cell BK446.out 1).trans rfl
              have hfz125_0 := blk_frozen BK446.out 0
              have hfz125_1 := blk_frozen BK446.out 1
              have hnb126 := NB454_418.out
              have hnc126 := NB418_454.out
              have hnb127 := NB454_419.out
              have hnc127 := NB419_454.out
              have hnb128 := NB454_423.out
              have hnc128 := NB423_454.out
              have hnb129 := NB454_462.out
              have hnc129 := NB462_454.out
              have hnb130 := NB454_470.out
              have hnc130 := NB470_454.out
              have hcz131_0 : w104.cell? ⟨gb454, 0, none⟩ = some (.slice Ao82 t447.length co82) := (blk_cell BK454.out 0).trans rfl
              have hcz131_1 : w104.cell? ⟨gb454, 1, none⟩ = some (.slice Ao88 t450.length co88) := (blk_cell BK454.out 1).trans rfl
              have hfz131_0 := blk_frozen BK454.out 0
              have hfz131_1 := blk_frozen BK454.out 1
              go_wp2_with (first | (go_at_call 14; (with_reducible refine (customsref33_SameDisk.calls _ _ t439 _ _ t442 _ _ t447 _ _ t450 true _ ?side1 ?side2 ?side3 ?side4 ?side5 ?side6 ?side7 ?side8 A115.out).mono ?_); (case side1 => refine (Kd.R_reads' (e := 5) (base := w.heap.size) (ok := fun k_ => (((((((w.heap.size ≤ k_) ∧ some k_ ≠ (.slice Ao76 t442.length co76 : Value).ownBlock) ∧ some k_ ≠ (.slice Ao88 t450.length co88 : Value).ownBlock) ∧ some k_ ≠ (.slice Ao93 t455.length co93 : Value).ownBlock) ∧ some k_ ≠ (.slice Ao100 t458.length co100 : Value).ownBlock) ∧ some k_ ≠ (.slice Ao105 t463.length co105 : Value).ownBlock) ∧ some k_ ≠ (.slice Ao113 t466.length co113 : Value).ownBlock)) (n := t439.length) (c := co71) ?_).2.2; exact (by (with_reducible repeat (first | apply Kd.R_alloc | apply Kd.R_drewN | apply Kd.R_drew)); exact (Kd.R_mono (Kd.R_far (p := ⟨gb470, 1, none⟩) (Kd.R_far (p := ⟨gb470, 0, none⟩) (Kd.R_types HO441.out BK470.out (by decide)) (fun _ hk => hk.2) (.slice Ao105 t463.length co105)) (fun _ hk => hk.2) (.slice Ao113 t466.length co113)) (fun _ h_ => h_.1)))); (case side2 => exact (Kd.R_reads' HO441.out).2.1); (case side3 => refine (Kd.R_reads' (e := 5) (base := w.heap.size) (ok := fun k_ => (((((((w.heap.size ≤ k_) ∧ some k_ ≠ (.slice Ao71 t439.length co71 : Value).ownBlock) ∧ some k_ ≠ (.slice Ao88 t450.length co88 : Value).ownBlock) ∧ some k_ ≠ (.slice Ao93 t455.length co93 : Value).ownBlock) ∧ some k_ ≠ (.slice Ao100 t458.length co100 : Value).ownBlock) ∧ some k_ ≠ (.slice Ao105 t463.length co105 : Value).ownBlock) ∧ some k_ ≠ (.slice Ao113 t466.length co113 : Value).ownBlock)) (n := t442.length) (c := co76) ?_).2.2; exact (by (with_reducible repeat (first | apply Kd.R_alloc | apply Kd.R_drewN | apply Kd.R_drew)); exact (Kd.R_mono (Kd.R_far (p := ⟨gb470, 1, none⟩) (Kd.R_far (p := ⟨gb470, 0, none⟩) (Kd.R_types HO444.out BK470.out (by decide)) (fun _ hk => hk.2) (.slice Ao105 t463.length co105)) (fun _ hk => hk.2) (.slice Ao113 t466.length co113)) (fun _ h_ => h_.1)))); (case side4 => exact (Kd.R_reads' HO444.out).2.1); (case side5 => refine (Kd.V_reads' (e := 5) (base := w.heap.size) (ok := fun k_ => ((((((((((P0_ k_ ∨ P2_0_ k_ ∨ P2_1_ k_ ∨ P3_1_ k_) ∨ w.heap.size ≤ k_) ∧ (some k_ ≠ (.slice Ao88 t450.length co88 : Value).ownBlock ∧ (some k_ ≠ (.slice Ao71 t439.length co71 : Value).ownBlock ∧ (some k_ ≠ (.slice Ao76 t442.length co76 : Value).ownBlock ∧ (k_ ≠ gb418 ∧ (k_ ≠ gb419 ∧ (k_ ≠ gb423 ∧ k_ ≠ gb446))))))) ∧ k_ ≠ gb454) ∧ some k_ ≠ (.slice Ao93 t455.length co93 : Value).ownBlock) ∧ some k_ ≠ (.slice Ao100 t458.length co100 : Value).ownBlock) ∧ k_ ≠ gb462) ∧ some k_ ≠ (.slice Ao105 t463.length co105 : Value).ownBlock) ∧ some k_ ≠ (.slice Ao113 t466.length co113 : Value).ownBlock) ∧ k_ ≠ gb470)) (n := t447.length) (c := co82) ?_).2.2; exact (by (with_reducible repeat (first | apply Kd.V_alloc | apply Kd.V_drewN | apply Kd.V_drew)); exact (Kd.V_mono (Kd.V_far (p := ⟨gb470, 1, none⟩) (Kd.V_far (p := ⟨gb470, 0, none⟩) (Kd.V_mono HO449.out (fun k_ hk => (⟨hk, hk.2⟩ : _ ∧ k_ ≠ gb470))) (fun _ hk => hk.2) (.slice Ao105 t463.length co105)) (fun _ hk => hk.2) (.slice Ao113 t466.length co113)) (fun _ h_ => h_.1)))); (case side6 => exact (Kd.V_reads' HO449.out).2.1); (case side7 => refine (Kd.R_reads' (e := 5) (base := w.heap.size) (ok := fun k_ => ((((((((w.heap.size ≤ k_) ∧ True) ∧ some k_ ≠ (.slice Ao71 t439.length co71 : Value).ownBlock) ∧ some k_ ≠ (.slice Ao76 t442.length co76 : Value).ownBlock) ∧ some k_ ≠ (.slice Ao93 t455.length co93 : Value).ownBlock) ∧ some k_ ≠ (.slice Ao100 t458.length co100 : Value).ownBlock) ∧ some k_ ≠ (.slice Ao105 t463.length co105 : Value).ownBlock) ∧ some k_ ≠ (.slice Ao113 t466.length co113 : Value).ownBlock)) (n := t450.length) (c := co88) ?_).2.2; exact (by (with_reducible repeat (first | apply Kd.R_alloc | apply Kd.R_drewN | apply Kd.R_drew)); exact (Kd.R_mono (Kd.R_far (p := ⟨gb470, 1, none⟩) (Kd.R_far (p := ⟨gb470, 0, none⟩) (Kd.R_types HO452.out BK470.out (by decide)) (fun _ hk => hk.2) (.slice Ao105 t463.length co105)) (fun _ hk => hk.2) (.slice Ao113 t466.length co113)) (fun _ h_ => h_.1)))); (case side8 => exact (Kd.R_reads' HO452.out).2.1); rintro e w132 ⟨rfl, hb⟩; have n0_ := Aside0.mk (Kd.V_below (by (with_reducible repeat (first | apply Kd.V_alloc | apply Kd.V_drewN | apply Kd.V_drew)); exact (Kd.V_mono (Kd.V_far (p := ⟨gb470, 1, none⟩) (Kd.V_far (p := ⟨gb470, 0, none⟩) (Kd.V_mono HO_419000.out (fun k_ hk => (⟨hk, hk.2⟩ : _ ∧ k_ ≠ gb470))) (fun _ hk => hk.2) (.slice Ao105 t463.length co105)) (fun _ hk => hk.2) (.slice Ao113 t466.length co113)) (fun _ h_ => h_.1))) hb); have n1_ := Aside0.mk (Kd.V_below (by (with_reducible repeat (first | apply Kd.V_alloc | apply Kd.V_drewN | apply Kd.V_drew)); exact (Kd.V_mono (Kd.V_far (p := ⟨gb470, 1, none⟩) (Kd.V_far (p := ⟨gb470, 0, none⟩) (Kd.V_mono HO_419001.out (fun k_ hk => (⟨hk, hk.2⟩ : _ ∧ k_ ≠ gb470))) (fun _ hk => hk.2) (.slice Ao105 t463.length co105)) (fun _ hk => hk.2) (.slice Ao113 t466.length co113)) (fun _ h_ => h_.1))) hb); have n2_ := Aside0.mk (Kd.V_below (by (with_reducible repeat (first | apply Kd.V_alloc | apply Kd.V_drewN | apply Kd.V_drew)); exact (Kd.V_mono (Kd.V_far (p := ⟨gb470, 1, none⟩) (Kd.V_far (p := ⟨gb470, 0, none⟩) (Kd.V_mono HO_420001.out (fun k_ hk => (⟨hk, hk.2⟩ : _ ∧ k_ ≠ gb470))) (fun _ hk => hk.2) (.slice Ao105 t463.length co105)) (fun _ hk => hk.2) (.slice Ao113 t466.length co113)) (fun _ h_ => h_.1))) hb); have n3_ := Aside0.mk (Kd.V_below (by (with_reducible repeat (first | apply Kd.V_alloc | apply Kd.V_drewN | apply Kd.V_drew)); exact (Kd.V_mono (Kd.V_far (p := ⟨gb470, 1, none⟩) (Kd.V_far (p := ⟨gb470, 0, none⟩) (Kd.V_mono HO_424000.out (fun k_ hk => (⟨hk, hk.2⟩ : _ ∧ k_ ≠ gb470))) (fun _ hk => hk.2) (.slice Ao105 t463.length co105)) (fun _ hk => hk.2) (.slice Ao113 t466.length co113)) (fun _ h_ => h_.1))) hb); have n4_ := Aside0.mk (Kd.V_below (by (with_reducible repeat (first | apply Kd.V_alloc | apply Kd.V_drewN | apply Kd.V_drew)); exact (Kd.V_mono (Kd.V_far (p := ⟨gb470, 1, none⟩) (Kd.V_far (p := ⟨gb470, 0, none⟩) (Kd.V_mono HO_424001.out (fun k_ hk => (⟨hk, hk.2⟩ : _ ∧ k_ ≠ gb470))) (fun _ hk => hk.2) (.slice Ao105 t463.length co105)) (fun _ hk => hk.2) (.slice Ao113 t466.length co113)) (fun _ h_ => h_.1))) hb); have n5_ := Aside0.mk (Kd.R_below (by (with_reducible repeat (first | apply Kd.R_alloc | apply Kd.R_drewN | apply Kd.R_drew)); exact (Kd.R_mono (Kd.R_far (p := ⟨gb470, 1, none⟩) (Kd.R_far (p := ⟨gb470, 0, none⟩) (Kd.R_types HO441.out BK470.out (by decide)) (fun _ hk => hk.2) (.slice Ao105 t463.length co105)) (fun _ hk => hk.2) (.slice Ao113 t466.length co113)) (fun _ h_ => h_.1))) hb); have n6_ := Aside0.mk (Kd.R_below (by (with_reducible repeat (first | apply Kd.R_alloc | apply Kd.R_drewN | apply Kd.R_drew)); exact (Kd.R_mono (Kd.R_far (p := ⟨gb470, 1, none⟩) (Kd.R_far (p := ⟨gb470, 0, none⟩) (Kd.R_types HO444.out BK470.out (by decide)) (fun _ hk => hk.2) (.slice Ao105 t463.length co105)) (fun _ hk => hk.2) (.slice Ao113 t466.length co113)) (fun _ h_ => h_.1))) hb); have n7_ := Aside0.mk (Kd.V_below (by (with_reducible repeat (first | apply Kd.V_alloc | apply Kd.V_drewN | apply Kd.V_drew)); exact (Kd.V_mono (Kd.V_far (p := ⟨gb470, 1, none⟩) (Kd.V_far (p := ⟨gb470, 0, none⟩) (Kd.V_mono HO449.out (fun k_ hk => (⟨hk, hk.2⟩ : _ ∧ k_ ≠ gb470))) (fun _ hk => hk.2) (.slice Ao105 t463.length co105)) (fun _ hk => hk.2) (.slice Ao113 t466.length co113)) (fun _ h_ => h_.1))) hb); have n8_ := Aside0.mk (Kd.R_below (by (with_reducible repeat (first | apply Kd.R_alloc | apply Kd.R_drewN | apply Kd.R_drew)); exact (Kd.R_mono (Kd.R_far (p := ⟨gb470, 1, none⟩) (Kd.R_far (p := ⟨gb470, 0, none⟩) (Kd.R_types HO452.out BK470.out (by decide)) (fun _ hk => hk.2) (.slice Ao105 t463.length co105)) (fun _ hk => hk.2) (.slice Ao113 t466.length co113)) (fun _ h_ => h_.1))) hb); have n9_ := Aside0.mk (Kd.R_below (by (with_reducible repeat (first | apply Kd.R_alloc | apply Kd.R_drewN | apply Kd.R_drew)); exact (Kd.R_mono (Kd.R_far (p := ⟨gb470, 1, none⟩) (Kd.R_far (p := ⟨gb470, 0, none⟩) (Kd.R_types HO457.out BK470.out (by decide)) (fun _ hk => hk.2) (.slice Ao105 t463.length co105)) (fun _ hk => hk.2) (.slice Ao113 t466.length co113)) (fun _ h_ => h_.1))) hb); have n10_ := Aside0.mk (Kd.R_below (by (with_reducible repeat (first | apply Kd.R_alloc | apply Kd.R_drewN | apply Kd.R_drew)); exact (Kd.R_mono (Kd.R_far (p := ⟨gb470, 1, none⟩) (Kd.R_far (p := ⟨gb470, 0, none⟩) (Kd.R_types HO460.out BK470.out (by decide)) (fun _ hk => hk.2) (.slice Ao105 t463.length co105)) (fun _ hk => hk.2) (.slice Ao113 t466.length co113)) (fun _ h_ => h_.1))) hb); have n11_ := Aside0.mk (Kd.R_below (by (with_reducible repeat (first | apply Kd.R_alloc | apply Kd.R_drewN | apply Kd.R_drew)); exact (Kd.R_mono (Kd.R_far (p := ⟨gb470, 1, none⟩) (Kd.R_far (p := ⟨gb470, 0, none⟩) (Kd.R_types HO465.out BK470.out (by decide)) (fun _ hk => hk.2) (.slice Ao105 t463.length co105)) (fun _ hk => hk.2) (.slice Ao113 t466.length co113)) (fun _ h_ => h_.1))) hb); have n12_ := Aside0.mk (Kd.R_below (by (with_reducible repeat (first | apply Kd.R_alloc | apply Kd.R_drewN | apply Kd.R_drew)); exact (Kd.R_mono (Kd.R_far (p := ⟨gb470, 1, none⟩) (Kd.R_far (p := ⟨gb470, 0, none⟩) (Kd.R_types HO468.out BK470.out (by decide)) (fun _ hk => hk.2) (.slice Ao105 t463.length co105)) (fun _ hk => hk.2) (.slice Ao113 t466.length co113)) (fun _ h_ => h_.1))) hb); have n13_ := Aside0.mk (blk_below (g := gb418) (o := .cells #[.slice A2_0 l2_0.length c2_0, .slice A2_1 l2_1.length c2_1] 24 (0, 0)) (by (with_reducible repeat (first | refine blk_drewN ?_ _ | refine blk_drew ?_ | refine blk_alloc ?_ _)); refine blk_far ?_ NB418_470.out _; (with_reducible repeat (first | refine blk_drewN ?_ _ | refine blk_drew ?_ | refine blk_alloc ?_ _)); refine blk_far ?_ NB418_470.out _; (with_reducible repeat (first | refine blk_drewN ?_ _ | refine blk_drew ?_ | refine blk_alloc ?_ _)); exact BK418.out) hb); have n14_ := Aside0.mk (blk_below (g := gb419) (o := .cells #[.int .i64 a3_0, .slice A3_1 l3_1.length c3_1] 43 (0, 0)) (by (with_reducible repeat (first | refine blk_drewN ?_ _ | refine blk_drew ?_ | refine blk_alloc ?_ _)); refine blk_far ?_ NB419_470.out _; (with_reducible repeat (first | refine blk_drewN ?_ _ | refine blk_drew ?_ | refine blk_alloc ?_ _)); refine blk_far ?_ NB419_470.out _; (with_reducible repeat (first | refine blk_drewN ?_ _ | refine blk_drew ?_ | refine blk_alloc ?_ _)); exact BK419.out) hb); have n15_ := Aside0.mk (blk_below (g := gb423) (o := .cells #[.slice Ao67 x424000_6.length co67, .slice Ao68 x424001_6.length co68] 24 (0, 0)) (by (with_reducible repeat (first | refine blk_drewN ?_ _ | refine blk_drew ?_ | refine blk_alloc ?_ _)); refine blk_far ?_ NB423_470.out _; (with_reducible repeat (first | refine blk_drewN ?_ _ | refine blk_drew ?_ | refine blk_alloc ?_ _)); refine blk_far ?_ NB423_470.out _; (with_reducible repeat (first | refine blk_drewN ?_ _ | refine blk_drew ?_ | refine blk_alloc ?_ _)); exact BK423.out) hb); have n16_ := Aside0.mk (blk_below (g := gb446) (o := .cells #[.slice Ao71 t439.length co71, .slice Ao76 t442.length co76] 24 (0, 0)) (by (with_reducible repeat (first | refine blk_drewN ?_ _ | refine blk_drew ?_ | refine blk_alloc ?_ _)); refine blk_far ?_ NB446_470.out _; (with_reducible repeat (first | refine blk_drewN ?_ _ | refine blk_drew ?_ | refine blk_alloc ?_ _)); refine blk_far ?_ NB446_470.out _; (with_reducible repeat (first | refine blk_drewN ?_ _ | refine blk_drew ?_ | refine blk_alloc ?_ _)); exact BK446.out) hb); have n17_ := Aside0.mk (blk_below (g := gb454) (o := .cells #[.slice Ao82 t447.length co82, .slice Ao88 t450.length co88] 24 (0, 0)) (by (with_reducible repeat (first | refine blk_drewN ?_ _ | refine blk_drew ?_ | refine blk_alloc ?_ _)); refine blk_far ?_ NB454_470.out _; (with_reducible repeat (first | refine blk_drewN ?_ _ | refine blk_drew ?_ | refine blk_alloc ?_ _)); refine blk_far ?_ NB454_470.out _; (with_reducible repeat (first | refine blk_drewN ?_ _ | refine blk_drew ?_ | refine blk_alloc ?_ _)); exact BK454.out) hb); have n18_ := Aside0.mk (blk_below (g := gb462) (o := .cells #[.slice Ao93 t455.length co93, .slice Ao100 t458.length co100] 24 (0, 0)) (by (with_reducible repeat (first | refine blk_drewN ?_ _ | refine blk_drew ?_ | refine blk_alloc ?_ _)); refine blk_far ?_ NB462_470.out _; (with_reducible repeat (first | refine blk_drewN ?_ _ | refine blk_drew ?_ | refine blk_alloc ?_ _)); refine blk_far ?_ NB462_470.out _; (with_reducible repeat (first | refine blk_drewN ?_ _ | refine blk_drew ?_ | refine blk_alloc ?_ _)); exact BK462.out) hb); have n19_ := Aside0.mk (blk_below (g := gb470) (o := .cells #[.slice Ao105 t463.length co105, .slice Ao113 t466.length co113] 24 (0, 0)) (by (with_reducible repeat (first | refine blk_drewN ?_ _ | refine blk_drew ?_ | refine blk_alloc ?_ _)); refine blk_put (cs := #[.slice Ao105 t463.length co105, .slice none 0 0]) ?_ 1 _ rfl; (with_reducible repeat (first | refine blk_drewN ?_ _ | refine blk_drew ?_ | refine blk_alloc ?_ _)); refine blk_put (cs := #[.slice none 0 0, .slice none 0 0]) ?_ 0 _ rfl; (with_reducible repeat (first | refine blk_drewN ?_ _ | refine blk_drew ?_ | refine blk_alloc ?_ _)); exact BK470.out) hb); have n20_ := Aside0.mk (below_step (by repeat (first | (with_reducible first | exact HB.out | apply below_alloc | apply pw_below_drewN | apply below_drew1 | refine below_set ?_ GE418.out | refine below_set ?_ GE419.out | refine below_set ?_ GE423.out | refine below_set ?_ GE446.out | refine below_set ?_ GE454.out | refine below_set ?_ GE462.out | refine below_set ?_ GE470.out) | exact HB.out)) hb); clear HO_419000; clear HO_419001; clear HO_420001; clear HO_424000; clear HO_424001; clear HO441; clear HO444; clear HO449; clear HO452; clear HO457; clear HO460; clear HO465; clear HO468; clear BK418; clear BK419; clear BK423; clear BK446; clear BK454; clear BK462; clear BK470; clear HB; have HO_419000 := n0_; have HO_419001 := n1_; have HO_420001 := n2_; have HO_424000 := n3_; have HO_424001 := n4_; have HO441 := n5_; have HO444 := n6_; have HO449 := n7_; have HO452 := n8_; have HO457 := n9_; have HO460 := n10_; have HO465 := n11_; have HO468 := n12_; have BK418 := n13_; have BK419 := n14_; have BK423 := n15_; have BK446 := n16_; have BK454 := n17_; have BK462 := n18_; have BK470 := n19_; have HB := n20_; clear n0_ n1_ n2_ n3_ n4_ n5_ n6_ n7_ n8_ n9_ n10_ n11_ n12_ n13_ n14_ n15_ n16_ n17_ n18_ n19_ n20_; (try clear hb); (try clear hb2); (try clear hk); (try clear hi); have hnb133 := NB462_418.out; have hnc133 := NB418_462.out; have hnb134 := NB462_419.out; have hnc134 := NB419_462.out; have hnb135 := NB462_423.out; have hnc135 := NB423_462.out; have hnb136 := NB462_470.out; have hnc136 := NB470_462.out; have hcz137_0 : w132.cell? ⟨gb462, 0, none⟩ = some (.slice Ao93 t455.length co93) := (blk_cell BK462.out 0).trans rfl; have hcz137_1 : w132.cell? ⟨gb462, 1, none⟩ = some (.slice Ao100 t458.length co100) := (blk_cell BK462.out 1).trans rfl; have hfz137_0 := blk_frozen BK462.out 0; have hfz137_1 := blk_frozen BK462.out 1; have hnb138 := NB470_418.out; have hnc138 := NB418_470.out; have hnb139 := NB470_419.out; have hnc139 := NB419_470.out; have hnb140 := NB470_423.out; have hnc140 := NB423_470.out; have hcz141_0 : w132.cell? ⟨gb470, 0, none⟩ = some (.slice Ao105 t463.length co105) := (blk_cell BK470.out 0).trans rfl; have hcz141_1 : w132.cell? ⟨gb470, 1, none⟩ = some (.slice Ao113 t466.length co113) := (blk_cell BK470.out 1).trans rfl; have hfz141_0 := blk_frozen BK470.out 0; have hfz141_1 := blk_frozen BK470.out 1) | (go_at_call 14; (with_reducible refine (customsref33_SameDisk.calls _ _ t455 _ _ t458 _ _ t463 _ _ t466 t472 _ ?side1 ?side2 ?side3 ?side4 ?side5 ?side6 ?side7 ?side8 A118.out).mono ?_); (case side1 => exact pC (Kd.R_reads' HO457.out).2.2); (case side2 => exact (Kd.R_reads' HO457.out).2.1); (case side3 => exact pC (Kd.R_reads' HO460.out).2.2); (case side4 => exact (Kd.R_reads' HO460.out).2.1); (case side5 => exact pC (Kd.R_reads' HO465.out).2.2); (case side6 => exact (Kd.R_reads' HO465.out).2.1); (case side7 => exact pC (Kd.R_reads' HO468.out).2.2); (case side8 => exact (Kd.R_reads' HO468.out).2.1); rintro e w142 ⟨rfl, hb⟩; have n0_ := Aside0.mk (Kd.V_below (by exact pV HO_424000.out) hb); have n1_ := Aside0.mk (Kd.V_below (by exact pV HO_424001.out) hb); have n2_ := Aside0.mk (Kd.R_below (by exact pR HO457.out) hb); have n3_ := Aside0.mk (Kd.R_below (by exact pR HO460.out) hb); have n4_ := Aside0.mk (Kd.R_below (by exact pR HO465.out) hb); have n5_ := Aside0.mk (Kd.R_below (by exact pR HO468.out) hb); have n6_ := Aside0.mk (blk_below (g := gb423) (o := .cells #[.slice Ao67 x424000_6.length co67, .slice Ao68 x424001_6.length co68] 24 (0, 0)) (by exact pK BK423.out) hb); have n7_ := Aside0.mk (below_step (by exact pB HB.out) hb); clear HO_424000; clear HO_424001; clear HO457; clear HO460; clear HO465; clear HO468; clear BK423; clear HB; have HO_424000 := n0_; have HO_424001 := n1_; have HO457 := n2_; have HO460 := n3_; have HO465 := n4_; have HO468 := n5_; have BK423 := n6_; have HB := n7_; clear n0_ n1_ n2_ n3_ n4_ n5_ n6_ n7_; (try clear hb); (try clear hb2); (try clear hk); (try clear hi)))
              go_meet
              case rel => exact ⟨_, (!t472), (by first | rfl | (simp; done) | (simp [*]; done)), H', ⟨by have := HJ6.out; first | omega | exact Nat.le_refl _⟩, ⟨by exact pV (Kd.V_mono HO_424000.out (fun _ hk => ⟨hk.1.1.1.1.1.1.1.1.1, hk.1.1.1.1.1.1.1.1.2.2.2.2.2.1⟩))⟩, ⟨by exact pV (Kd.V_mono HO_424001.out (fun _ hk => ⟨hk.1.1.1.1.1.1.1.1.1, hk.1.1.1.1.1.1.1.1.2.2.2.2.2.1⟩))⟩, ⟨by exact pK BK423.out⟩, ⟨by exact pB HB.out⟩⟩
            · rw [if_neg c117] at H
              have c117b0 : (t461 == t469) = false := beq_eq_false_iff_ne.mpr c117
              have c117b1 : (t461 != t469) = true := bne_iff_ne.mpr c117
              exact absurd H (by cases kj6 <;> simp [customslaw34_JournalOpen.j4])
          · replace c116 := Bool.eq_false_iff.mpr c116
            subst c116
            have H1 : (customslaw34_JournalOpen.j4 kj6 true x424000_6 x424001_6) = some true := by rw [if_neg (show ¬ (false = true) by decide)] at H; exact H
            clear H
            have H := H1
            clear H1
            exact absurd H (by cases kj6 <;> simp [customslaw34_JournalOpen.j4])
        · rw [if_neg c114] at H
          have c114b0 : (t445 == t453) = false := beq_eq_false_iff_ne.mpr c114
          have c114b1 : (t445 != t453) = true := bne_iff_ne.mpr c114
          (first | rw [c114b0] | (simp only [i64_w, i32_w]; rw [c114b0]) | skip)
          exact absurd H (by cases kj6 <;> simp [customslaw34_JournalOpen.j4])
      case rest =>
        clear HC61
        try clear c1
        try clear c2
        try clear p2
        try clear c3
        try clear c4
        try clear p4
        try clear q4
        try clear hx4
        try clear c6
        try clear p6
        try clear c7
        try clear c8
        try clear c9
        try clear c10
        try clear c11
        try clear c12
        try clear c13
        try clear c14
        try clear c15
        try clear c16
        try clear c17
        try clear c18
        try clear c19
        try clear c21
        try clear c21b0
        try clear c24
        try clear c24b0
        try clear c25
        try clear c25b0
        try clear c27
        try clear c28
        try clear c28b0
        try clear c29
        try clear c29b0
        try clear c31
        try clear c31b0
        try clear c31b1
        try clear c34
        try clear c35
        try clear c36
        try clear c37
        try clear c41
        try clear c42
        try clear p42
        try clear q42
        try clear hx42
        try clear c62
        try clear c63
        try clear p64
        try clear c65
        try clear c72
        try clear c73
        try clear c74
        try clear c83
        try clear c84
        try clear c85
        try clear c86
        try clear c94
        try clear c95
        try clear c96
        try clear c97
        try clear c98
        try clear c106
        try clear c107
        try clear c108
        try clear c109
        try clear c110
        try clear c111
        try clear c114
        try clear c114b0
        try clear c114b1
        try clear c116
        try clear c117
        try clear c117b0
        try clear c117b1
        try clear c119
        try clear c120
        try clear c121
        try clear c122
        try clear c123
        try clear c124
        try clear c126
        try clear c127
        try clear c128
        try clear c129
        try clear c130
        try clear c133
        try clear c134
        try clear c135
        try clear c136
        try clear c138
        try clear c139
        try clear c140
        try clear hcz101_0
        try clear hcz101_1
        try clear hcz102_0
        try clear hcz102_1
        try clear hcz112_0
        try clear hcz112_1
        try clear hcz125_0
        try clear hcz125_1
        try clear hcz12_0
        try clear hcz12_1
        try clear hcz131_0
        try clear hcz131_1
        try clear hcz137_0
        try clear hcz137_1
        try clear hcz141_0
        try clear hcz141_1
        try clear hcz16_0
        try clear hcz16_1
        try clear hcz20_0
        try clear hcz20_1
        try clear hcz43_0
        try clear hcz43_1
        try clear hcz46_0
        try clear hcz46_1
        try clear hcz64_0
        try clear hcz64_1
        try clear hcz66_0
        try clear hcz66_1
        try clear hcz75_0
        try clear hcz75_1
        try clear hcz78_0
        try clear hcz78_1
        try clear hcz79_0
        try clear hcz79_1
        try clear hcz87_0
        try clear hcz87_1
        try clear hcz89_0
        try clear hcz89_1
        try clear hcz90_0
        try clear hcz90_1
        try clear hcz99_0
        try clear hcz99_1
        try clear hfz101_0
        try clear hfz101_1
        try clear hfz102_0
        try clear hfz102_1
        try clear hfz112_0
        try clear hfz112_1
        try clear hfz125_0
        try clear hfz125_1
        try clear hfz12_0
        try clear hfz12_1
        try clear hfz131_0
        try clear hfz131_1
        try clear hfz137_0
        try clear hfz137_1
        try clear hfz141_0
        try clear hfz141_1
        try clear hfz16_0
        try clear hfz16_1
        try clear hfz20_0
        try clear hfz20_1
        try clear hfz43_0
        try clear hfz43_1
        try clear hfz46_0
        try clear hfz46_1
        try clear hfz64_0
        try clear hfz64_1
        try clear hfz66_0
        try clear hfz66_1
        try clear hfz75_0
        try clear hfz75_1
        try clear hfz78_0
        try clear hfz78_1
        try clear hfz79_0
        try clear hfz79_1
        try clear hfz87_0
        try clear hfz87_1
        try clear hfz89_0
        try clear hfz89_1
        try clear hfz90_0
        try clear hfz90_1
        try clear hfz99_0
        try clear hfz99_1
        try clear hx424_0
        try clear hx425_0
        try clear p2
        try clear p4
        try clear p42
        try clear p424
        try clear p425
        try clear p6
        try clear q4
        try clear q42
        try clear q424
        try clear q425
        obtain ⟨kq, x113_60, rfl, HA, HJ60, HO_424000, HO_424001, BK423, HB⟩ := hcut
        cases kq with
        | zero => exact absurd HA.out (by simp [customslaw34_JournalOpen.j4])
        | succ kj60 =>
          have H := HA.out
          clear HA
          simp only [customslaw34_JournalOpen.j4] at H
          have c143 : ¬ (x113_60 = true) := by
            intro c143
            rw [if_pos c143] at H
            exact absurd (Option.some.inj H) (by simp)
          replace c143 := Bool.eq_false_iff.mpr c143
          subst c143
          have H1 : ((journal_Open.f kj60 x424000_6 x424001_6).bind fun bt473 => ((customsref33_Open.f kj60 x424000_6 x424001_6).bind fun bt487 => ((customsref33_SameDisk.f bt473.1 bt473.2.1 bt487.1 bt487.2.1).bind fun t501 => (if t501 = true then ((customsref33_SameBytes.f bt473.2.2.1 bt487.2.2.1).bind fun t502 => (if t502 = true then (if (bt473.2.2.2.1 == bt487.2.2.2.1) = true then ((customsref33_SameRecords.f kj60 bt473.2.2.2.2 bt487.2.2.2.2).bind fun t503 => (if t503 = true then ((customslaw34_awake.f kj60).bind fun t504 => (some t504)) else (some false))) else (some false)) else (some false))) else (some false))))) = some true := by rw [if_neg (show ¬ (false = true) by decide)] at H; exact H
          clear H
          have H := H1
          clear H1
          replace H := Option.bind_eq_some_iff.mp H
          obtain ⟨⟨t473, t476, t479, t482, t483⟩, A1440, H⟩ := H
          replace H : ((customsref33_Open.f kj60 x424000_6 x424001_6).bind fun bt487 => ((customsref33_SameDisk.f t473 t476 bt487.1 bt487.2.1).bind fun t501 => (if t501 = true then ((customsref33_SameBytes.f t479 bt487.2.2.1).bind fun t502 => (if t502 = true then (if (t482 == bt487.2.2.2.1) = true then ((customsref33_SameRecords.f kj60 t483 bt487.2.2.2.2).bind fun t503 => (if t503 = true then ((customslaw34_awake.f kj60).bind fun t504 => (some t504)) else (some false))) else (some false)) else (some false))) else (some false)))) = some true := H
          have A144 := Aside0.mk A1440
          clear A1440
          replace H := Option.bind_eq_some_iff.mp H
          obtain ⟨⟨t487, t490, t493, t496, t497⟩, A1450, H⟩ := H
          replace H : ((customsref33_SameDisk.f t473 t476 t487 t490).bind fun t501 => (if t501 = true then ((customsref33_SameBytes.f t479 t493).bind fun t502 => (if t502 = true then (if (t482 == t496) = true then ((customsref33_SameRecords.f kj60 t483 t497).bind fun t503 => (if t503 = true then ((customslaw34_awake.f kj60).bind fun t504 => (some t504)) else (some false))) else (some false)) else (some false))) else (some false))) = some true := H
          have A145 := Aside0.mk A1450
          clear A1450
          replace H := Option.bind_eq_some_iff.mp H
          obtain ⟨t501, A1460, H⟩ := H
          replace H : (if t501 = true then ((customsref33_SameBytes.f t479 t493).bind fun t502 => (if t502 = true then (if (t482 == t496) = true then ((customsref33_SameRecords.f kj60 t483 t497).bind fun t503 => (if t503 = true then ((customslaw34_awake.f kj60).bind fun t504 => (some t504)) else (some false))) else (some false)) else (some false))) else (some false)) = some true := H
          have A146 := Aside0.mk A1460
          clear A1460
          have c147 : t501 = true := by
            refine Classical.byContradiction fun c147 => ?_
            rw [if_neg c147] at H
            exact absurd (Option.some.inj H) (by simp)
          subst c147
          have H1 : ((customsref33_SameBytes.f t479 t493).bind fun t502 => (if t502 = true then (if (t482 == t496) = true then ((customsref33_SameRecords.f kj60 t483 t497).bind fun t503 => (if t503 = true then ((customslaw34_awake.f kj60).bind fun t504 => (some t504)) else (some false))) else (some false)) else (some false))) = some true := by rw [if_pos rfl] at H; exact H
          clear H
          have H := H1
          clear H1
          replace H := Option.bind_eq_some_iff.mp H
          obtain ⟨t502, A1480, H⟩ := H
          replace H : (if t502 = true then (if (t482 == t496) = true then ((customsref33_SameRecords.f kj60 t483 t497).bind fun t503 => (if t503 = true then ((customslaw34_awake.f kj60).bind fun t504 => (some t504)) else (some false))) else (some false)) else (some false)) = some true := H
          have A148 := Aside0.mk A1480
          clear A1480
          have c149 : t502 = true := by
            refine Classical.byContradiction fun c149 => ?_
            rw [if_neg c149] at H
            exact absurd (Option.some.inj H) (by simp)
          subst c149
          have H1 : (if (t482 == t496) = true then ((customsref33_SameRecords.f kj60 t483 t497).bind fun t503 => (if t503 = true then ((customslaw34_awake.f kj60).bind fun t504 => (some t504)) else (some false))) else (some false)) = some true := by rw [if_pos rfl] at H; exact H
          clear H
          have H := H1
          clear H1
          have c150 : (t482 == t496) = true := by
            refine Classical.byContradiction fun c150 => ?_
            rw [if_neg c150] at H
            exact absurd (Option.some.inj H) (by simp)
          rw [if_pos c150] at H
          have c150b0 : (t482 == t496) = true := c150
          (try (have c150b1 : decide (t482 = t496) = true := by simpa using c150))
          (try (have c150b2 : (t482 == t496) = true := by simpa using c150))
          clear c150
          replace H := Option.bind_eq_some_iff.mp H
          obtain ⟨t503, A1510, H⟩ := H
          replace H : (if t503 = true then ((customslaw34_awake.f kj60).bind fun t504 => (some t504)) else (some false)) = some true := H
          have A151 := Aside0.mk A1510
          clear A1510
          have c152 : t503 = true := by
            refine Classical.byContradiction fun c152 => ?_
            rw [if_neg c152] at H
            exact absurd (Option.some.inj H) (by simp)
          subst c152
          have H1 : ((customslaw34_awake.f kj60).bind fun t504 => (some t504)) = some true := by rw [if_pos rfl] at H; exact H
          clear H
          have H := H1
          clear H1
          replace H := Option.bind_eq_some_iff.mp H
          obtain ⟨t504, A1530, H⟩ := H
          replace H : (some t504) = some true := H
          have A153 := Aside0.mk A1530
          clear A1530
          have HTR := Aside0.mk (Option.some.inj H)
          clear H
          have hcz154_0 : wc.cell? ⟨gb423, 0, none⟩ = some (.slice Ao67 x424000_6.length co67) := (blk_cell BK423.out 0).trans rfl
          have hcz154_1 : wc.cell? ⟨gb423, 1, none⟩ = some (.slice Ao68 x424001_6.length co68) := (blk_cell BK423.out 1).trans rfl
          have hfz154_0 := blk_frozen BK423.out 0
          have hfz154_1 := blk_frozen BK423.out 1
          go_wp2_with (first | ((with_reducible refine gate_callee (f := 38) rfl ?_); refine goesL_ (some 116) rfl rfl Try.func38 (by kernel_rfl) rfl #[.agg #[.slice Ao67 x424000_6.length co67, .slice Ao68 x424001_6.length co68]] rfl (by (try simp only [List.map_toArray, List.map_cons, List.map_nil]); first | done | rfl | (simp only [List.length_drop, List.length_take]; rfl)) ?_; (with_reducible refine (journal_Open.calls kj60 _ _ x424000_6 _ _ x424001_6 t473 t476 t479 t482 t483 _ ?side1 ?side2 ?side3 ?side4 A144.out).mono ?_); (case side1 => exact pC (Kd.V_reads' HO_424000.out).2.2); (case side2 => exact (Kd.V_reads' HO_424000.out).2.1); (case side3 => exact pC (Kd.V_reads' HO_424001.out).2.2); (case side4 => exact (Kd.V_reads' HO_424001.out).2.1); rintro e w155 ⟨v474, v477, v480, v484, rfl, ho0, ho1, ho2, ho3, hb⟩; refine ⟨_, rfl, ?_⟩; have n0_ := Aside0.mk (Kd.V_mono (Kd.V_told (Kd.V_told (Kd.V_old (by exact pV HO_424000.out) hb) (Kd.R_base ho1)) (Kd.N_base ho3)) (fun _ h_ => h_.1)); have n1_ := Aside0.mk (Kd.V_mono (Kd.V_told (Kd.V_told (Kd.V_old (by exact pV HO_424001.out) hb) (Kd.R_base ho1)) (Kd.N_base ho3)) (fun _ h_ => h_.1)); have n2_ := Aside0.mk (Kd.V_lower (Kd.V_mono (ok' := fun k_ => ((P0_ k_ ∨ P2_0_ k_ ∨ P2_1_ k_ ∨ P3_1_ k_) ∨ w.heap.size ≤ k_) ∧ some k_ ≠ (v477 : Value).ownBlock ∧ some k_ ≠ (v484 : Value).ownBlock ∧ k_ ≠ gb423) ho0 (fun k_ hk_ => ⟨(.inr (Nat.le_trans (below_size (by exact pB HB.out)) hk_.1)), hk_.2.1, hk_.2.2, (Kd.freshB (g := gb423) (o := .cells #[.slice Ao67 x424000_6.length co67, .slice Ao68 x424001_6.length co68] 24 (0, 0)) (by exact pK BK423.out) k_ hk_.1)⟩)) (below_size (by exact pB HB.out))); have n3_ := Aside0.mk (Kd.R_lower (Kd.R_newM (M := fun k_ => (w.heap.size ≤ k_)) (Kd.R_mono (ok' := fun k_ => True) ho1 (fun _ hk_ => trivial)) (below_size (by exact pB HB.out)) (fun k_ h_ => h_)) (below_size (by exact pB HB.out))); have n4_ := Aside0.mk (Kd.V_lower (Kd.V_mono (ok' := fun k_ => ((P0_ k_ ∨ P2_0_ k_ ∨ P2_1_ k_ ∨ P3_1_ k_) ∨ w.heap.size ≤ k_) ∧ some k_ ≠ (v477 : Value).ownBlock ∧ some k_ ≠ (v484 : Value).ownBlock ∧ k_ ≠ gb423) ho2 (fun k_ hk_ => ⟨(.inr (Nat.le_trans (below_size (by exact pB HB.out)) hk_.1)), hk_.2.1, hk_.2.2, (Kd.freshB (g := gb423) (o := .cells #[.slice Ao67 x424000_6.length co67, .slice Ao68 x424001_6.length co68] 24 (0, 0)) (by exact pK BK423.out) k_ hk_.1)⟩)) (below_size (by exact pB HB.out))); have n5_ := Aside0.mk (Kd.N_lower (Kd.N_mono (ok' := fun k_ => ((P0_ k_ ∨ P2_0_ k_ ∨ P2_1_ k_ ∨ P3_1_ k_) ∨ w.heap.size ≤ k_) ∧ some k_ ≠ (v477 : Value).ownBlock ∧ k_ ≠ gb423) ho3 (fun k_ hk_ => ⟨(.inr (Nat.le_trans (below_size (by exact pB HB.out)) hk_.1)), hk_.2, (Kd.freshB (g := gb423) (o := .cells #[.slice Ao67 x424000_6.length co67, .slice Ao68 x424001_6.length co68] 24 (0, 0)) (by exact pK BK423.out) k_ hk_.1)⟩)) (below_size (by exact pB HB.out))); have n6_ := Aside0.mk (blk_below (g := gb423) (o := .cells #[.slice Ao67 x424000_6.length co67, .slice Ao68 x424001_6.length co68] 24 (0, 0)) (by exact pK BK423.out) hb); have n7_ := Aside0.mk (below_step (by exact pB HB.out) hb); clear HO_424000; clear HO_424001; clear BK423; clear HB; have HO_424000 := n0_; have HO_424001 := n1_; have HO475 := n2_; have HO478 := n3_; have HO481 := n4_; have HO485 := n5_; have BK423 := n6_; have HB := n7_; clear n0_ n1_ n2_ n3_ n4_ n5_ n6_ n7_; (try clear hb); (try clear hb2); (try clear hk); (try clear hi); (try clear ho0); (try clear ho1); (try clear ho2); (try clear ho3)) | ((with_reducible refine gate_dst (N := 22) rfl ?_); refine box_event ?hg (N := 22) ?hd (cs := #[.slice none 0 0, .slice none 0 0]) (t := 24) ?hr ?_; (case hd => rfl); (case hg => rfl); (case hr => first | (go_simp; done) | (go_simp; rfl)); intro gb486 hg w156 hbox hb; have n0_ := Aside0.mk (Kd.V_below (Kd.V_elderB (by exact pV HO_424000.out) gb486 (Nat.le_of_eq hg.symm)) hb); have n1_ := Aside0.mk (Kd.V_below (Kd.V_elderB (by exact pV HO_424001.out) gb486 (Nat.le_of_eq hg.symm)) hb); have n2_ := Aside0.mk (Kd.V_below (Kd.V_elderB (by exact pV HO475.out) gb486 (Nat.le_of_eq hg.symm)) hb); have n3_ := Aside0.mk (Kd.R_below (by exact pR HO478.out) hb); have n4_ := Aside0.mk (Kd.V_below (Kd.V_elderB (by exact pV HO481.out) gb486 (Nat.le_of_eq hg.symm)) hb); have n5_ := Aside0.mk (Kd.N_below (Kd.N_elderB (by exact pN HO485.out) gb486 (Nat.le_of_eq hg.symm)) hb); have n6_ := Aside0.mk (blk_below (g := gb423) (o := .cells #[.slice Ao67 x424000_6.length co67, .slice Ao68 x424001_6.length co68] 24 (0, 0)) (by exact pK BK423.out) hb); have n7_ := Aside0.mk (below_step (by exact pB HB.out) hb); have n8_ := Aside0.mk (hbox); have n9_ := Aside0.mk ((by rw [hg]; exact (below_size (by exact pB HB.out)) : w.heap.size ≤ gb486)); have n10_ := Aside0.mk ((by rw [hg]; exact (below_size (by exact pB HB.out)) : w.heap.size ≤ gb486)); have n11_ := Aside0.mk ((by rw [hg]; exact Nat.ne_of_lt (blk_lt (g := gb423) (o := .cells #[.slice Ao67 x424000_6.length co67, .slice Ao68 x424001_6.length co68] 24 (0, 0)) (by exact pK BK423.out)) : gb423 ≠ gb486)); have n12_ := Aside0.mk ((by rw [hg]; exact Nat.ne_of_gt (blk_lt (g := gb423) (o := .cells #[.slice Ao67 x424000_6.length co67, .slice Ao68 x424001_6.length co68] 24 (0, 0)) (by exact pK BK423.out)) : gb486 ≠ gb423)); clear HO_424000; clear HO_424001; clear HO475; clear HO478; clear HO481; clear HO485; clear BK423; clear HB; have HO_424000 := n0_; have HO_424001 := n1_; have HO475 := n2_; have HO478 := n3_; have HO481 := n4_; have HO485 := n5_; have BK423 := n6_; have HB := n7_; have BK486 := n8_; have GW486 := n9_; have GE486 := n10_; have NB423_486 := n11_; have NB486_423 := n12_; clear n0_ n1_ n2_ n3_ n4_ n5_ n6_ n7_ n8_ n9_ n10_ n11_ n12_; clear hb hbox hg; obtain ⟨Ao157, co157, eo157⟩ := Kd.V_slice HO475.out; subst eo157; have hnb158 := NB486_423.out; have hnc158 := NB423_486.out; have hcz159_0 : w156.cell? ⟨gb486, 0, none⟩ = some (.slice none 0 0) := (blk_cell BK486.out 0).trans rfl; have hcz159_1 : w156.cell? ⟨gb486, 1, none⟩ = some (.slice none 0 0) := (blk_cell BK486.out 1).trans rfl; have hfz159_0 := blk_frozen BK486.out 0; have hfz159_1 := blk_frozen BK486.out 1; obtain ⟨Ao160, co160, eo160⟩ := Kd.R_slice HO478.out; subst eo160; have hcz161_0 : w156.cell? ⟨gb423, 0, none⟩ = some (.slice Ao67 x424000_6.length co67) := (blk_cell BK423.out 0).trans rfl; have hcz161_1 : w156.cell? ⟨gb423, 1, none⟩ = some (.slice Ao68 x424001_6.length co68) := (blk_cell BK423.out 1).trans rfl; have hfz161_0 := blk_frozen BK423.out 0; have hfz161_1 := blk_frozen BK423.out 1) | ((with_reducible refine gate_callee (f := 39) rfl ?_); refine goesL_ (some 123) rfl rfl Try.func39 (by kernel_rfl) rfl #[.agg #[.slice Ao67 x424000_6.length co67, .slice Ao68 x424001_6.length co68]] rfl (by (try simp only [List.map_toArray, List.map_cons, List.map_nil]); first | done | rfl | (simp only [List.length_drop, List.length_take]; rfl)) ?_; (with_reducible refine (customsref33_Open.calls kj60 _ _ x424000_6 _ _ x424001_6 t487 t490 t493 t496 t497 _ ?side1 ?side2 ?side3 ?side4 A145.out).mono ?_); (case side1 => refine (Kd.V_reads' (e := 5) (base := w.heap.size) (ok := fun k_ => ((((((P0_ k_ ∨ P2_0_ k_ ∨ P2_1_ k_ ∨ P3_1_ k_) ∨ w.heap.size ≤ k_) ∧ k_ ≠ gb423) ∧ some k_ ≠ (.slice Ao160 t476.length co160 : Value).ownBlock) ∧ some k_ ≠ (v484 : Value).ownBlock) ∧ k_ ≠ gb486)) (n := x424000_6.length) (c := co67) ?_).2.2; exact (by (with_reducible repeat (first | apply Kd.V_alloc | apply Kd.V_drewN | apply Kd.V_drew)); exact (Kd.V_mono (Kd.V_far (p := ⟨gb486, 1, none⟩) (Kd.V_far (p := ⟨gb486, 0, none⟩) (Kd.V_mono HO_424000.out (fun k_ hk => (⟨hk, hk.2⟩ : _ ∧ k_ ≠ gb486))) (fun _ hk => hk.2) (.slice Ao157 t473.length co157)) (fun _ hk => hk.2) (.slice Ao160 t476.length co160)) (fun _ h_ => h_.1)))); (case side2 => exact (Kd.V_reads' HO_424000.out).2.1); (case side3 => refine (Kd.V_reads' (e := 5) (base := w.heap.size) (ok := fun k_ => ((((((P0_ k_ ∨ P2_0_ k_ ∨ P2_1_ k_ ∨ P3_1_ k_) ∨ w.heap.size ≤ k_) ∧ k_ ≠ gb423) ∧ some k_ ≠ (.slice Ao160 t476.length co160 : Value).ownBlock) ∧ some k_ ≠ (v484 : Value).ownBlock) ∧ k_ ≠ gb486)) (n := x424001_6.length) (c := co68) ?_).2.2; exact (by (with_reducible repeat (first | apply Kd.V_alloc | apply Kd.V_drewN | apply Kd.V_drew)); exact (Kd.V_mono (Kd.V_far (p := ⟨gb486, 1, none⟩) (Kd.V_far (p := ⟨gb486, 0, none⟩) (Kd.V_mono HO_424001.out (fun k_ hk => (⟨hk, hk.2⟩ : _ ∧ k_ ≠ gb486))) (fun _ hk => hk.2) (.slice Ao157 t473.length co157)) (fun _ hk => hk.2) (.slice Ao160 t476.length co160)) (fun _ h_ => h_.1)))); (case side4 => exact (Kd.V_reads' HO_424001.out).2.1); rintro e w162 ⟨v488, v491, v494, v498, rfl, ho0, ho1, ho2, ho3, hb⟩; refine ⟨_, rfl, ?_⟩; have n0_ := Aside0.mk (Kd.V_mono (Kd.V_told (Kd.V_told (Kd.V_told (Kd.V_old (by (with_reducible repeat (first | apply Kd.V_alloc | apply Kd.V_drewN | apply Kd.V_drew)); exact (Kd.V_mono (Kd.V_far (p := ⟨gb486, 1, none⟩) (Kd.V_far (p := ⟨gb486, 0, none⟩) (Kd.V_mono HO_424000.out (fun k_ hk => (⟨hk, hk.2⟩ : _ ∧ k_ ≠ gb486))) (fun _ hk => hk.2) (.slice Ao157 t473.length co157)) (fun _ hk => hk.2) (.slice Ao160 t476.length co160)) (fun _ h_ => h_.1))) hb) (Kd.R_base ho0)) (Kd.R_base ho1)) (Kd.N_base ho3)) (fun _ h_ => h_.1)); have n1_ := Aside0.mk (Kd.V_mono (Kd.V_told (Kd.V_told (Kd.V_told (Kd.V_old (by (with_reducible repeat (first | apply Kd.V_alloc | apply Kd.V_drewN | apply Kd.V_drew)); exact (Kd.V_mono (Kd.V_far (p := ⟨gb486, 1, none⟩) (Kd.V_far (p := ⟨gb486, 0, none⟩) (Kd.V_mono HO_424001.out (fun k_ hk => (⟨hk, hk.2⟩ : _ ∧ k_ ≠ gb486))) (fun _ hk => hk.2) (.slice Ao157 t473.length co157)) (fun _ hk => hk.2) (.slice Ao160 t476.length co160)) (fun _ h_ => h_.1))) hb) (Kd.R_base ho0)) (Kd.R_base ho1)) (Kd.N_base ho3)) (fun _ h_ => h_.1)); have n2_ := Aside0.mk (Kd.V_mono (Kd.V_told (Kd.V_told (Kd.V_told (Kd.V_old (by (with_reducible repeat (first | apply Kd.V_alloc | apply Kd.V_drewN | apply Kd.V_drew)); exact (Kd.V_mono (Kd.V_far (p := ⟨gb486, 1, none⟩) (Kd.V_far (p := ⟨gb486, 0, none⟩) (Kd.V_mono HO475.out (fun k_ hk => (⟨hk, hk.2⟩ : _ ∧ k_ ≠ gb486))) (fun _ hk => hk.2) (.slice Ao157 t473.length co157)) (fun _ hk => hk.2) (.slice Ao160 t476.length co160)) (fun _ h_ => h_.1))) hb) (Kd.R_base ho0)) (Kd.R_base ho1)) (Kd.N_base ho3)) (fun _ h_ => h_.1)); have n3_ := Aside0.mk (Kd.R_mono (Kd.R_told (Kd.R_told (Kd.R_old (by (with_reducible repeat (first | apply Kd.R_alloc | apply Kd.R_drewN | apply Kd.R_drew)); exact (Kd.R_mono (Kd.R_far (p := ⟨gb486, 1, none⟩) (Kd.R_far (p := ⟨gb486, 0, none⟩) (Kd.R_types HO478.out BK486.out (by decide)) (fun _ hk => hk.2) (.slice Ao157 t473.length co157)) (fun _ hk => hk.2) (.slice Ao160 t476.length co160)) (fun _ h_ => h_.1))) hb) (Kd.R_base ho0)) (Kd.R_base ho1)) (fun _ h_ => h_.1)); have n4_ := Aside0.mk (Kd.V_mono (Kd.V_told (Kd.V_told (Kd.V_told (Kd.V_old (by (with_reducible repeat (first | apply Kd.V_alloc | apply Kd.V_drewN | apply Kd.V_drew)); exact (Kd.V_mono (Kd.V_far (p := ⟨gb486, 1, none⟩) (Kd.V_far (p := ⟨gb486, 0, none⟩) (Kd.V_mono HO481.out (fun k_ hk => (⟨hk, hk.2⟩ : _ ∧ k_ ≠ gb486))) (fun _ hk => hk.2) (.slice Ao157 t473.length co157)) (fun _ hk => hk.2) (.slice Ao160 t476.length co160)) (fun _ h_ => h_.1))) hb) (Kd.R_base ho0)) (Kd.R_base ho1)) (Kd.N_base ho3)) (fun _ h_ => h_.1)); have n5_ := Aside0.mk (Kd.N_mono (Kd.N_told (Kd.N_told (Kd.N_told (Kd.N_old (by (with_reducible repeat (first | apply Kd.N_alloc | apply Kd.N_drewN | apply Kd.N_drew)); exact (Kd.N_mono (Kd.N_far (p := ⟨gb486, 1, none⟩) (Kd.N_far (p := ⟨gb486, 0, none⟩) (Kd.N_mono HO485.out (fun k_ hk => (⟨hk, hk.2⟩ : _ ∧ k_ ≠ gb486))) (fun _ hk => hk.2) (.slice Ao157 t473.length co157)) (fun _ hk => hk.2) (.slice Ao160 t476.length co160)) (fun _ h_ => h_.1))) hb) (Kd.R_base ho0)) (Kd.R_base ho1)) (Kd.N_base ho3)) (fun _ h_ => h_.1)); have n6_ := Aside0.mk (Kd.R_lower (Kd.R_new' (Kd.R_newM (M := fun k_ => (w.heap.size ≤ k_)) (Kd.R_mono (ok' := fun k_ => some k_ ≠ (v491 : Value).ownBlock) ho0 (fun _ hk_ => hk_.2)) (below_size (by repeat (first | (with_reducible first | exact HB.out | apply below_alloc | apply pw_below_drewN | apply below_drew1 | refine below_set ?_ GE423.out | refine below_set ?_ GE486.out) | exact HB.out))) (fun k_ h_ => h_)) (Kd.R_lt (by (with_reducible repeat (first | apply Kd.R_alloc | apply Kd.R_drewN | apply Kd.R_drew)); exact (Kd.R_mono (Kd.R_far (p := ⟨gb486, 1, none⟩) (Kd.R_far (p := ⟨gb486, 0, none⟩) (Kd.R_types HO478.out BK486.out (by decide)) (fun _ hk => hk.2) (.slice Ao157 t473.length co157)) (fun _ hk => hk.2) (.slice Ao160 t476.length co160)) (fun _ h_ => h_.1))))) (below_size (by repeat (first | (with_reducible first | exact HB.out | apply below_alloc | apply pw_below_drewN | apply below_drew1 | refine below_set ?_ GE423.out | refine below_set ?_ GE486.out) | exact HB.out)))); have n7_ := Aside0.mk (Kd.R_lower (Kd.R_new' (Kd.R_newM (M := fun k_ => (w.heap.size ≤ k_)) (Kd.R_mono (ok' := fun k_ => some k_ ≠ (v488 : Value).ownBlock) ho1 (fun _ hk_ => hk_.2)) (below_size (by repeat (first | (with_reducible first | exact HB.out | apply below_alloc | apply pw_below_drewN | apply below_drew1 | refine below_set ?_ GE423.out | refine below_set ?_ GE486.out) | exact HB.out))) (fun k_ h_ => h_)) (Kd.R_lt (by (with_reducible repeat (first | apply Kd.R_alloc | apply Kd.R_drewN | apply Kd.R_drew)); exact (Kd.R_mono (Kd.R_far (p := ⟨gb486, 1, none⟩) (Kd.R_far (p := ⟨gb486, 0, none⟩) (Kd.R_types HO478.out BK486.out (by decide)) (fun _ hk => hk.2) (.slice Ao157 t473.length co157)) (fun _ hk => hk.2) (.slice Ao160 t476.length co160)) (fun _ h_ => h_.1))))) (below_size (by repeat (first | (with_reducible first | exact HB.out | apply below_alloc | apply pw_below_drewN | apply below_drew1 | refine below_set ?_ GE423.out | refine below_set ?_ GE486.out) | exact HB.out)))); have n8_ := Aside0.mk (Kd.V_lower (Kd.V_mono (ok' := fun k_ => ((P0_ k_ ∨ P2_0_ k_ ∨ P2_1_ k_ ∨ P3_1_ k_) ∨ w.heap.size ≤ k_) ∧ some k_ ≠ (v488 : Value).ownBlock ∧ some k_ ≠ (v491 : Value).ownBlock ∧ some k_ ≠ (v498 : Value).ownBlock ∧ some k_ ≠ (.slice Ao160 t476.length co160 : Value).ownBlock ∧ some k_ ≠ (v484 : Value).ownBlock ∧ k_ ≠ gb423 ∧ k_ ≠ gb486) ho2 (fun k_ hk_ => ⟨(.inr (Nat.le_trans (below_size (by repeat (first | (with_reducible first | exact HB.out | apply below_alloc | apply pw_below_drewN | apply below_drew1 | refine below_set ?_ GE423.out | refine below_set ?_ GE486.out) | exact HB.out))) hk_.1)), hk_.2.1, hk_.2.2.1, hk_.2.2.2, (Kd.fresh' (Kd.R_lt (by (with_reducible repeat (first | apply Kd.R_alloc | apply Kd.R_drewN | apply Kd.R_drew)); exact (Kd.R_mono (Kd.R_far (p := ⟨gb486, 1, none⟩) (Kd.R_far (p := ⟨gb486, 0, none⟩) (Kd.R_types HO478.out BK486.out (by decide)) (fun _ hk => hk.2) (.slice Ao157 t473.length co157)) (fun _ hk => hk.2) (.slice Ao160 t476.length co160)) (fun _ h_ => h_.1)))) k_ hk_.1), (Kd.fresh' (Kd.N_lt (by (with_reducible repeat (first | apply Kd.N_alloc | apply Kd.N_drewN | apply Kd.N_drew)); exact (Kd.N_mono (Kd.N_far (p := ⟨gb486, 1, none⟩) (Kd.N_far (p := ⟨gb486, 0, none⟩) (Kd.N_mono HO485.out (fun k_ hk => (⟨hk, hk.2⟩ : _ ∧ k_ ≠ gb486))) (fun _ hk => hk.2) (.slice Ao157 t473.length co157)) (fun _ hk => hk.2) (.slice Ao160 t476.length co160)) (fun _ h_ => h_.1)))) k_ hk_.1), (Kd.freshB (g := gb423) (o := .cells #[.slice Ao67 x424000_6.length co67, .slice Ao68 x424001_6.length co68] 24 (0, 0)) (by (with_reducible repeat (first | refine blk_drewN ?_ _ | refine blk_drew ?_ | refine blk_alloc ?_ _)); refine blk_far ?_ NB423_486.out _; (with_reducible repeat (first | refine blk_drewN ?_ _ | refine blk_drew ?_ | refine blk_alloc ?_ _)); refine blk_far ?_ NB423_486.out _; (with_reducible repeat (first | refine blk_drewN ?_ _ | refine blk_drew ?_ | refine blk_alloc ?_ _)); exact BK423.out) k_ hk_.1), (Kd.freshB (g := gb486) (o := .cells #[.slice Ao157 t473.length co157, .slice Ao160 t476.length co160] 24 (0, 0)) (by (with_reducible repeat (first | refine blk_drewN ?_ _ | refine blk_drew ?_ | refine blk_alloc ?_ _)); refine blk_put (cs := #[.slice Ao157 t473.length co157, .slice none 0 0]) ?_ 1 _ rfl; (with_reducible repeat (first | refine blk_drewN ?_ _ | refine blk_drew ?_ | refine blk_alloc ?_ _)); refine blk_put (cs := #[.slice none 0 0, .slice none 0 0]) ?_ 0 _ rfl; (with_reducible repeat (first | refine blk_drewN ?_ _ | refine blk_drew ?_ | refine blk_alloc ?_ _)); exact BK486.out) k_ hk_.1)⟩)) (below_size (by repeat (first | (with_reducible first | exact HB.out | apply below_alloc | apply pw_below_drewN | apply below_drew1 | refine below_set ?_ GE423.out | refine below_set ?_ GE486.out) | exact HB.out)))); have n9_ := Aside0.mk (Kd.N_lower (Kd.N_mono (ok' := fun k_ => ((P0_ k_ ∨ P2_0_ k_ ∨ P2_1_ k_ ∨ P3_1_ k_) ∨ w.heap.size ≤ k_) ∧ some k_ ≠ (v488 : Value).ownBlock ∧ some k_ ≠ (v491 : Value).ownBlock ∧ some k_ ≠ (.slice Ao160 t476.length co160 : Value).ownBlock ∧ some k_ ≠ (v484 : Value).ownBlock ∧ k_ ≠ gb423 ∧ k_ ≠ gb486) ho3 (fun k_ hk_ => ⟨(.inr (Nat.le_trans (below_size (by repeat (first | (with_reducible first | exact HB.out | apply below_alloc | apply pw_below_drewN | apply below_drew1 | refine below_set ?_ GE423.out | refine below_set ?_ GE486.out) | exact HB.out))) hk_.1)), hk_.2.1, hk_.2.2, (Kd.fresh' (Kd.R_lt (by (with_reducible repeat (first | apply Kd.R_alloc | apply Kd.R_drewN | apply Kd.R_drew)); exact (Kd.R_mono (Kd.R_far (p := ⟨gb486, 1, none⟩) (Kd.R_far (p := ⟨gb486, 0, none⟩) (Kd.R_types HO478.out BK486.out (by decide)) (fun _ hk => hk.2) (.slice Ao157 t473.length co157)) (fun _ hk => hk.2) (.slice Ao160 t476.length co160)) (fun _ h_ => h_.1)))) k_ hk_.1), (Kd.fresh' (Kd.N_lt (by (with_reducible repeat (first | apply Kd.N_alloc | apply Kd.N_drewN | apply Kd.N_drew)); exact (Kd.N_mono (Kd.N_far (p := ⟨gb486, 1, none⟩) (Kd.N_far (p := ⟨gb486, 0, none⟩) (Kd.N_mono HO485.out (fun k_ hk => (⟨hk, hk.2⟩ : _ ∧ k_ ≠ gb486))) (fun _ hk => hk.2) (.slice Ao157 t473.length co157)) (fun _ hk => hk.2) (.slice Ao160 t476.length co160)) (fun _ h_ => h_.1)))) k_ hk_.1), (Kd.freshB (g := gb423) (o := .cells #[.slice Ao67 x424000_6.length co67, .slice Ao68 x424001_6.length co68] 24 (0, 0)) (by (with_reducible repeat (first | refine blk_drewN ?_ _ | refine blk_drew ?_ | refine blk_alloc ?_ _)); refine blk_far ?_ NB423_486.out _; (with_reducible repeat (first | refine blk_drewN ?_ _ | refine blk_drew ?_ | refine blk_alloc ?_ _)); refine blk_far ?_ NB423_486.out _; (with_reducible repeat (first | refine blk_drewN ?_ _ | refine blk_drew ?_ | refine blk_alloc ?_ _)); exact BK423.out) k_ hk_.1), (Kd.freshB (g := gb486) (o := .cells #[.slice Ao157 t473.length co157, .slice Ao160 t476.length co160] 24 (0, 0)) (by (with_reducible repeat (first | refine blk_drewN ?_ _ | refine blk_drew ?_ | refine blk_alloc ?_ _)); refine blk_put (cs := #[.slice Ao157 t473.length co157, .slice none 0 0]) ?_ 1 _ rfl; (with_reducible repeat (first | refine blk_drewN ?_ _ | refine blk_drew ?_ | refine blk_alloc ?_ _)); refine blk_put (cs := #[.slice none 0 0, .slice none 0 0]) ?_ 0 _ rfl; (with_reducible repeat (first | refine blk_drewN ?_ _ | refine blk_drew ?_ | refine blk_alloc ?_ _)); exact BK486.out) k_ hk_.1)⟩)) (below_size (by repeat (first | (with_reducible first | exact HB.out | apply below_alloc | apply pw_below_drewN | apply below_drew1 | refine below_set ?_ GE423.out | refine below_set ?_ GE486.out) | exact HB.out)))); have n10_ := Aside0.mk (blk_below (g := gb423) (o := .cells #[.slice Ao67 x424000_6.length co67, .slice Ao68 x424001_6.length co68] 24 (0, 0)) (by (with_reducible repeat (first | refine blk_drewN ?_ _ | refine blk_drew ?_ | refine blk_alloc ?_ _)); refine blk_far ?_ NB423_486.out _; (with_reducible repeat (first | refine blk_drewN ?_ _ | refine blk_drew ?_ | refine blk_alloc ?_ _)); refine blk_far ?_ NB423_486.out _; (with_reducible repeat (first | refine blk_drewN ?_ _ | refine blk_drew ?_ | refine blk_alloc ?_ _)); exact BK423.out) hb); have n11_ := Aside0.mk (blk_below (g := gb486) (o := .cells #[.slice Ao157 t473.length co157, .slice Ao160 t476.length co160] 24 (0, 0)) (by (with_reducible repeat (first | refine blk_drewN ?_ _ | refine blk_drew ?_ | refine blk_alloc ?_ _)); refine blk_put (cs := #[.slice Ao157 t473.length co157, .slice none 0 0]) ?_ 1 _ rfl; (with_reducible repeat (first | refine blk_drewN ?_ _ | refine blk_drew ?_ | refine blk_alloc ?_ _)); refine blk_put (cs := #[.slice none 0 0, .slice none 0 0]) ?_ 0 _ rfl; (with_reducible repeat (first | refine blk_drewN ?_ _ | refine blk_drew ?_ | refine blk_alloc ?_ _)); exact BK486.out) hb); have n12_ := Aside0.mk (below_step (by repeat (first | (with_reducible first | exact HB.out | apply below_alloc | apply pw_below_drewN | apply below_drew1 | refine below_set ?_ GE423.out | refine below_set ?_ GE486.out) | exact HB.out)) hb); clear HO_424000; clear HO_424001; clear HO475; clear HO478; clear HO481; clear HO485; clear BK423; clear BK486; clear HB; have HO_424000 := n0_; have HO_424001 := n1_; have HO475 := n2_; have HO478 := n3_; have HO481 := n4_; have HO485 := n5_; have HO489 := n6_; have HO492 := n7_; have HO495 := n8_; have HO499 := n9_; have BK423 := n10_; have BK486 := n11_; have HB := n12_; clear n0_ n1_ n2_ n3_ n4_ n5_ n6_ n7_ n8_ n9_ n10_ n11_ n12_; (try clear hb); (try clear hb2); (try clear hk); (try clear hi); (try clear ho0); (try clear ho1); (try clear ho2); (try clear ho3)) | ((with_reducible refine gate_dst (N := 26) rfl ?_); refine box_event ?hg (N := 26) ?hd (cs := #[.slice none 0 0, .slice none 0 0]) (t := 24) ?hr ?_; (case hd => rfl); (case hg => rfl); (case hr => first | (go_simp; done) | (go_simp; rfl)); intro gb500 hg w163 hbox hb; have n0_ := Aside0.mk (Kd.V_below (Kd.V_elderB (by exact pV HO475.out) gb500 (Nat.le_of_eq hg.symm)) hb); have n1_ := Aside0.mk (Kd.R_below (by exact pR HO478.out) hb); have n2_ := Aside0.mk (Kd.V_below (Kd.V_elderB (by exact pV HO481.out) gb500 (Nat.le_of_eq hg.symm)) hb); have n3_ := Aside0.mk (Kd.N_below (Kd.N_elderB (by exact pN HO485.out) gb500 (Nat.le_of_eq hg.symm)) hb); have n4_ := Aside0.mk (Kd.R_below (by exact pR HO489.out) hb); have n5_ := Aside0.mk (Kd.R_below (by exact pR HO492.out) hb); have n6_ := Aside0.mk (Kd.V_below (Kd.V_elderB (by exact pV HO495.out) gb500 (Nat.le_of_eq hg.symm)) hb); have n7_ := Aside0.mk (Kd.N_below (Kd.N_elderB (by exact pN HO499.out) gb500 (Nat.le_of_eq hg.symm)) hb); have n8_ := Aside0.mk (blk_below (g := gb486) (o := .cells #[.slice Ao157 t473.length co157, .slice Ao160 t476.length co160] 24 (0, 0)) (by exact pK BK486.out) hb); have n9_ := Aside0.mk (below_step (by exact pB HB.out) hb); have n10_ := Aside0.mk (hbox); have n11_ := Aside0.mk ((by rw [hg]; exact (below_size (by exact pB HB.out)) : w.heap.size ≤ gb500)); have n12_ := Aside0.mk ((by rw [hg]; exact (below_size (by exact pB HB.out)) : w.heap.size ≤ gb500)); have n13_ := Aside0.mk ((by rw [hg]; exact Nat.ne_of_lt (blk_lt (g := gb486) (o := .cells #[.slice Ao157 t473.length co157, .slice Ao160 t476.length co160] 24 (0, 0)) (by exact pK BK486.out)) : gb486 ≠ gb500)); have n14_ := Aside0.mk ((by rw [hg]; exact Nat.ne_of_gt (blk_lt (g := gb486) (o := .cells #[.slice Ao157 t473.length co157, .slice Ao160 t476.length co160] 24 (0, 0)) (by exact pK BK486.out)) : gb500 ≠ gb486)); clear HO475; clear HO478; clear HO481; clear HO485; clear HO489; clear HO492; clear HO495; clear HO499; clear BK486; clear HB; have HO475 := n0_; have HO478 := n1_; have HO481 := n2_; have HO485 := n3_; have HO489 := n4_; have HO492 := n5_; have HO495 := n6_; have HO499 := n7_; have BK486 := n8_; have HB := n9_; have BK500 := n10_; have GW500 := n11_; have GE500 := n12_; have NB486_500 := n13_; have NB500_486 := n14_; clear n0_ n1_ n2_ n3_ n4_ n5_ n6_ n7_ n8_ n9_ n10_ n11_ n12_ n13_ n14_; clear hb hbox hg; obtain ⟨Ao164, co164, eo164⟩ := Kd.R_slice HO489.out; subst eo164; have hnb165 := NB500_486.out; have hnc165 := NB486_500.out; have hcz166_0 : w163.cell? ⟨gb500, 0, none⟩ = some (.slice none 0 0) := (blk_cell BK500.out 0).trans rfl; have hcz166_1 : w163.cell? ⟨gb500, 1, none⟩ = some (.slice none 0 0) := (blk_cell BK500.out 1).trans rfl; have hfz166_0 := blk_frozen BK500.out 0; have hfz166_1 := blk_frozen BK500.out 1; obtain ⟨Ao167, co167, eo167⟩ := Kd.R_slice HO492.out; subst eo167; have hcz168_0 : w163.cell? ⟨gb486, 0, none⟩ = some (.slice Ao157 t473.length co157) := (blk_cell BK486.out 0).trans rfl; have hcz168_1 : w163.cell? ⟨gb486, 1, none⟩ = some (.slice Ao160 t476.length co160) := (blk_cell BK486.out 1).trans rfl; have hfz168_0 := blk_frozen BK486.out 0; have hfz168_1 := blk_frozen BK486.out 1) | ((with_reducible refine gate_callee (f := 14) rfl ?_); refine goesL_ (some 130) rfl rfl Try.func14 (by kernel_rfl) rfl #[.agg #[.slice Ao157 t473.length co157, .slice Ao160 t476.length co160], .agg #[.slice Ao164 t487.length co164, .slice Ao167 t490.length co167]] rfl (by (try simp only [List.map_toArray, List.map_cons, List.map_nil]); first | done | rfl | (simp only [List.length_drop, List.length_take]; rfl)) ?_; (with_reducible refine (customsref33_SameDisk.calls _ _ t473 _ _ t476 _ _ t487 _ _ t490 true _ ?side1 ?side2 ?side3 ?side4 ?side5 ?side6 ?side7 ?side8 A146.out).mono ?_); (case side1 => refine (Kd.V_reads' (e := 5) (base := w.heap.size) (ok := fun k_ => ((((((((P0_ k_ ∨ P2_0_ k_ ∨ P2_1_ k_ ∨ P3_1_ k_) ∨ w.heap.size ≤ k_) ∧ (some k_ ≠ (.slice Ao160 t476.length co160 : Value).ownBlock ∧ (some k_ ≠ (v484 : Value).ownBlock ∧ k_ ≠ gb423))) ∧ k_ ≠ gb486) ∧ some k_ ≠ (.slice Ao164 t487.length co164 : Value).ownBlock) ∧ some k_ ≠ (.slice Ao167 t490.length co167 : Value).ownBlock) ∧ some k_ ≠ (v498 : Value).ownBlock) ∧ k_ ≠ gb500)) (n := t473.length) (c := co157) ?_).2.2; exact (by (with_reducible repeat (first | apply Kd.V_alloc | apply Kd.V_drewN | apply Kd.V_drew)); exact (Kd.V_mono (Kd.V_far (p := ⟨gb500, 1, none⟩) (Kd.V_far (p := ⟨gb500, 0, none⟩) (Kd.V_mono HO475.out (fun k_ hk => (⟨hk, hk.2⟩ : _ ∧ k_ ≠ gb500))) (fun _ hk => hk.2) (.slice Ao164 t487.length co164)) (fun _ hk => hk.2) (.slice Ao167 t490.length co167)) (fun _ h_ => h_.1)))); (case side2 => exact (Kd.V_reads' HO475.out).2.1); (case side3 => refine (Kd.R_reads' (e := 5) (base := w.heap.size) (ok := fun k_ => ((((w.heap.size ≤ k_) ∧ True) ∧ some k_ ≠ (.slice Ao164 t487.length co164 : Value).ownBlock) ∧ some k_ ≠ (.slice Ao167 t490.length co167 : Value).ownBlock)) (n := t476.length) (c := co160) ?_).2.2; exact (by (with_reducible repeat (first | apply Kd.R_alloc | apply Kd.R_drewN | apply Kd.R_drew)); exact (Kd.R_mono (Kd.R_far (p := ⟨gb500, 1, none⟩) (Kd.R_far (p := ⟨gb500, 0, none⟩) (Kd.R_types HO478.out BK500.out (by decide)) (fun _ hk => hk.2) (.slice Ao164 t487.length co164)) (fun _ hk => hk.2) (.slice Ao167 t490.length co167)) (fun _ h_ => h_.1)))); (case side4 => exact (Kd.R_reads' HO478.out).2.1); (case side5 => refine (Kd.R_reads' (e := 5) (base := w.heap.size) (ok := fun k_ => (((w.heap.size ≤ k_) ∧ some k_ ≠ (.slice Ao167 t490.length co167 : Value).ownBlock) ∧ some k_ ≠ (.slice Ao160 t476.length co160 : Value).ownBlock)) (n := t487.length) (c := co164) ?_).2.2; exact (by (with_reducible repeat (first | apply Kd.R_alloc | apply Kd.R_drewN | apply Kd.R_drew)); exact (Kd.R_mono (Kd.R_far (p := ⟨gb500, 1, none⟩) (Kd.R_far (p := ⟨gb500, 0, none⟩) (Kd.R_types HO489.out BK500.out (by decide)) (fun _ hk => hk.2) (.slice Ao164 t487.length co164)) (fun _ hk => hk.2) (.slice Ao167 t490.length co167)) (fun _ h_ => h_.1)))); (case side6 => exact (Kd.R_reads' HO489.out).2.1); (case side7 => refine (Kd.R_reads' (e := 5) (base := w.heap.size) (ok := fun k_ => (((w.heap.size ≤ k_) ∧ some k_ ≠ (.slice Ao164 t487.length co164 : Value).ownBlock) ∧ some k_ ≠ (.slice Ao160 t476.length co160 : Value).ownBlock)) (n := t490.length) (c := co167) ?_).2.2; exact (by (with_reducible repeat (first | apply Kd.R_alloc | apply Kd.R_drewN | apply Kd.R_drew)); exact (Kd.R_mono (Kd.R_far (p := ⟨gb500, 1, none⟩) (Kd.R_far (p := ⟨gb500, 0, none⟩) (Kd.R_types HO492.out BK500.out (by decide)) (fun _ hk => hk.2) (.slice Ao164 t487.length co164)) (fun _ hk => hk.2) (.slice Ao167 t490.length co167)) (fun _ h_ => h_.1)))); (case side8 => exact (Kd.R_reads' HO492.out).2.1); rintro e w169 ⟨rfl, hb⟩; refine ⟨_, rfl, ?_⟩; have n0_ := Aside0.mk (Kd.V_below (by (with_reducible repeat (first | apply Kd.V_alloc | apply Kd.V_drewN | apply Kd.V_drew)); exact (Kd.V_mono (Kd.V_far (p := ⟨gb500, 1, none⟩) (Kd.V_far (p := ⟨gb500, 0, none⟩) (Kd.V_mono HO475.out (fun k_ hk => (⟨hk, hk.2⟩ : _ ∧ k_ ≠ gb500))) (fun _ hk => hk.2) (.slice Ao164 t487.length co164)) (fun _ hk => hk.2) (.slice Ao167 t490.length co167)) (fun _ h_ => h_.1))) hb); have n1_ := Aside0.mk (Kd.R_below (by (with_reducible repeat (first | apply Kd.R_alloc | apply Kd.R_drewN | apply Kd.R_drew)); exact (Kd.R_mono (Kd.R_far (p := ⟨gb500, 1, none⟩) (Kd.R_far (p := ⟨gb500, 0, none⟩) (Kd.R_types HO478.out BK500.out (by decide)) (fun _ hk => hk.2) (.slice Ao164 t487.length co164)) (fun _ hk => hk.2) (.slice Ao167 t490.length co167)) (fun _ h_ => h_.1))) hb); have n2_ := Aside0.mk (Kd.V_below (by (with_reducible repeat (first | apply Kd.V_alloc | apply Kd.V_drewN | apply Kd.V_drew)); exact (Kd.V_mono (Kd.V_far (p := ⟨gb500, 1, none⟩) (Kd.V_far (p := ⟨gb500, 0, none⟩) (Kd.V_mono HO481.out (fun k_ hk => (⟨hk, hk.2⟩ : _ ∧ k_ ≠ gb500))) (fun _ hk => hk.2) (.slice Ao164 t487.length co164)) (fun _ hk => hk.2) (.slice Ao167 t490.length co167)) (fun _ h_ => h_.1))) hb); have n3_ := Aside0.mk (Kd.N_below (by (with_reducible repeat (first | apply Kd.N_alloc | apply Kd.N_drewN | apply Kd.N_drew)); exact (Kd.N_mono (Kd.N_far (p := ⟨gb500, 1, none⟩) (Kd.N_far (p := ⟨gb500, 0, none⟩) (Kd.N_mono HO485.out (fun k_ hk => (⟨hk, hk.2⟩ : _ ∧ k_ ≠ gb500))) (fun _ hk => hk.2) (.slice Ao164 t487.length co164)) (fun _ hk => hk.2) (.slice Ao167 t490.length co167)) (fun _ h_ => h_.1))) hb); have n4_ := Aside0.mk (Kd.R_below (by (with_reducible repeat (first | apply Kd.R_alloc | apply Kd.R_drewN | apply Kd.R_drew)); exact (Kd.R_mono (Kd.R_far (p := ⟨gb500, 1, none⟩) (Kd.R_far (p := ⟨gb500, 0, none⟩) (Kd.R_types HO489.out BK500.out (by decide)) (fun _ hk => hk.2) (.slice Ao164 t487.length co164)) (fun _ hk => hk.2) (.slice Ao167 t490.length co167)) (fun _ h_ => h_.1))) hb); have n5_ := Aside0.mk (Kd.R_below (by (with_reducible repeat (first | apply Kd.R_alloc | apply Kd.R_drewN | apply Kd.R_drew)); exact (Kd.R_mono (Kd.R_far (p := ⟨gb500, 1, none⟩) (Kd.R_far (p := ⟨gb500, 0, none⟩) (Kd.R_types HO492.out BK500.out (by decide)) (fun _ hk => hk.2) (.slice Ao164 t487.length co164)) (fun _ hk => hk.2) (.slice Ao167 t490.length co167)) (fun _ h_ => h_.1))) hb); have n6_ := Aside0.mk (Kd.V_below (by (with_reducible repeat (first | apply Kd.V_alloc | apply Kd.V_drewN | apply Kd.V_drew)); exact (Kd.V_mono (Kd.V_far (p := ⟨gb500, 1, none⟩) (Kd.V_far (p := ⟨gb500, 0, none⟩) (Kd.V_mono HO495.out (fun k_ hk => (⟨hk, hk.2⟩ : _ ∧ k_ ≠ gb500))) (fun _ hk => hk.2) (.slice Ao164 t487.length co164)) (fun _ hk => hk.2) (.slice Ao167 t490.length co167)) (fun _ h_ => h_.1))) hb); have n7_ := Aside0.mk (Kd.N_below (by (with_reducible repeat (first | apply Kd.N_alloc | apply Kd.N_drewN | apply Kd.N_drew)); exact (Kd.N_mono (Kd.N_far (p := ⟨gb500, 1, none⟩) (Kd.N_far (p := ⟨gb500, 0, none⟩) (Kd.N_mono HO499.out (fun k_ hk => (⟨hk, hk.2⟩ : _ ∧ k_ ≠ gb500))) (fun _ hk => hk.2) (.slice Ao164 t487.length co164)) (fun _ hk => hk.2) (.slice Ao167 t490.length co167)) (fun _ h_ => h_.1))) hb); have n8_ := Aside0.mk (blk_below (g := gb486) (o := .cells #[.slice Ao157 t473.length co157, .slice Ao160 t476.length co160] 24 (0, 0)) (by (with_reducible repeat (first | refine blk_drewN ?_ _ | refine blk_drew ?_ | refine blk_alloc ?_ _)); refine blk_far ?_ NB486_500.out _; (with_reducible repeat (first | refine blk_drewN ?_ _ | refine blk_drew ?_ | refine blk_alloc ?_ _)); refine blk_far ?_ NB486_500.out _; (with_reducible repeat (first | refine blk_drewN ?_ _ | refine blk_drew ?_ | refine blk_alloc ?_ _)); exact BK486.out) hb); have n9_ := Aside0.mk (blk_below (g := gb500) (o := .cells #[.slice Ao164 t487.length co164, .slice Ao167 t490.length co167] 24 (0, 0)) (by (with_reducible repeat (first | refine blk_drewN ?_ _ | refine blk_drew ?_ | refine blk_alloc ?_ _)); refine blk_put (cs := #[.slice Ao164 t487.length co164, .slice none 0 0]) ?_ 1 _ rfl; (with_reducible repeat (first | refine blk_drewN ?_ _ | refine blk_drew ?_ | refine blk_alloc ?_ _)); refine blk_put (cs := #[.slice none 0 0, .slice none 0 0]) ?_ 0 _ rfl; (with_reducible repeat (first | refine blk_drewN ?_ _ | refine blk_drew ?_ | refine blk_alloc ?_ _)); exact BK500.out) hb); have n10_ := Aside0.mk (below_step (by repeat (first | (with_reducible first | exact HB.out | apply below_alloc | apply pw_below_drewN | apply below_drew1 | refine below_set ?_ GE486.out | refine below_set ?_ GE500.out) | exact HB.out)) hb); clear HO475; clear HO478; clear HO481; clear HO485; clear HO489; clear HO492; clear HO495; clear HO499; clear BK486; clear BK500; clear HB; have HO475 := n0_; have HO478 := n1_; have HO481 := n2_; have HO485 := n3_; have HO489 := n4_; have HO492 := n5_; have HO495 := n6_; have HO499 := n7_; have BK486 := n8_; have BK500 := n9_; have HB := n10_; clear n0_ n1_ n2_ n3_ n4_ n5_ n6_ n7_ n8_ n9_ n10_; (try clear hb); (try clear hb2); (try clear hk); (try clear hi); obtain ⟨Ao170, co170, eo170⟩ := Kd.V_slice HO481.out; subst eo170; obtain ⟨Ao171, co171, eo171⟩ := Kd.V_slice HO495.out; subst eo171) | (go_at_call 17; (with_reducible refine (customsref33_SameBytes.calls _ _ t479 _ _ t493 true _ ?side1 ?side2 ?side3 ?side4 A148.out).mono ?_); (case side1 => exact pC (Kd.V_reads' HO481.out).2.2); (case side2 => exact (Kd.V_reads' HO481.out).2.1); (case side3 => exact pC (Kd.V_reads' HO495.out).2.2); (case side4 => exact (Kd.V_reads' HO495.out).2.1); rintro e w' ⟨rfl, ⟨nd, rfl⟩⟩; obtain ⟨Ao172, co172, eo172⟩ := Kd.N_slice HO485.out; subst eo172; obtain ⟨Ao173, co173, eo173⟩ := Kd.N_slice HO499.out; subst eo173) | (go_at_call 40; (with_reducible refine (customsref33_SameRecords.calls kj60 _ _ t483 _ _ t497 true _ ?side1 ?side2 ?side3 ?side4 A151.out).mono ?_); (case side1 => exact pC (Kd.N_reads' HO485.out).2.2); (case side2 => exact (Kd.N_reads' HO485.out).2.1); (case side3 => exact pC (Kd.N_reads' HO499.out).2.2); (case side4 => exact (Kd.N_reads' HO499.out).2.1); rintro e w' ⟨rfl, ⟨nd, rfl⟩⟩) | (go_at_call 32; (with_reducible refine (customslaw34_awake.calls kj60  t504 _ A153.out).mono ?_); rintro e w174 ⟨rfl, hb⟩; have n0_ := Aside0.mk (below_step (by exact pB HB.out) hb); clear HB; have HB := n0_; clear n0_; (try clear hb); (try clear hb2); (try clear hk); (try clear hi)))
          go_ret
          exact ⟨by first | rfl | (rw [HTR.out]; first | done | rfl) | (simp [errW_none, errW_some] <;> rfl) | (simp [*, errW_none, errW_some] <;> rfl), by exact pB HB.out⟩

end Go.Proofs.Ythnlepmfjhhgfaa.PJournalOpen
