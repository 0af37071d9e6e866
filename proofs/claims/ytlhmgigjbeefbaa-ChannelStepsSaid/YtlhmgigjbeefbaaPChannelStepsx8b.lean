-- Printed by a patched copy of the kit's printer (wip/prt); nothing here is trusted, Lean checks it.
import Derived.Test.YtlhmgigjbeefbaaPChannelStepsx0
import Derived.Test.YtlhmgigjbeefbaaPChannelStepsx1
import Derived.Test.YtlhmgigjbeefbaaPChannelStepsx2
import Derived.Test.YtlhmgigjbeefbaaPChannelStepsx3
import Derived.Test.YtlhmgigjbeefbaaPChannelStepsx4
import Derived.Test.YtlhmgigjbeefbaaPChannelStepsx5
import Derived.Test.YtlhmgigjbeefbaaPChannelStepsx6
import Derived.Test.YtlhmgigjbeefbaaPChannelStepsx7
namespace Go.Proofs.Ytlhmgigjbeefbaa.PChannelSteps
open Go.RowKit Go.Proofs.YtlhmgigjbeefbaaW.PrintWords Go.Proofs.YtlhmgigjbeefbaaW.PrintLast Go.Proofs.YtlhmgigjbeefbaaW.PrintMore
attribute [local go_sem] max2_int min2_int max_two min_two max_three min_three max_four min_four   -- for this text's walks alone
set_option linter.unusedVariables false
set_option linter.unusedSimpArgs false

/-! ### customslaw38_ChannelSteps: function 5 -/
mutual
def customslaw38_ChannelSteps.j3 : Nat → Int → Int → Int → Int → List Int → List Int → Option (Bool)
  | 0, _, _, _, _, _, _ => none
  | k + 1, x1, x2, x3, x320000, x320001, x320002 => (channel_Transmit.f k x320000 x320001 x320002 x1).bind fun bt337 => ((customsref33_Transmit.f k x320000 x320001 x320002 x1).bind fun bt346 => (if bt337.2.2.2 = bt346.2.2.2 then ((customsref33_SameLine.f k bt337.1 bt337.2.1 bt337.2.2.1 bt346.1 bt346.2.1 bt346.2.2.1).bind fun t355 => (customslaw38_ChannelSteps.j4 k x1 x2 x3 (!t355) x320000 x320001 x320002)) else (customslaw38_ChannelSteps.j4 k x1 x2 x3 true x320000 x320001 x320002)))
def customslaw38_ChannelSteps.j4 : Nat → Int → Int → Int → Bool → Int → List Int → List Int → Option (Bool)
  | 0, _, _, _, _, _, _, _ => none
  | k + 1, x1, x2, x3, x98, x320000, x320001, x320002 => if x98 = true then (some false) else ((channel_Deliver.f k x320000 x320001 x320002 x2 x3).bind fun bt356 => ((customsref33_Deliver.f k x320000 x320001 x320002 x2 x3).bind fun bt365 => (if bt356.2.2.2.2 = bt365.2.2.2.2 then (if bt356.2.2.2.1 = bt365.2.2.2.1 then ((customsref33_SameLine.f k bt356.1 bt356.2.1 bt356.2.2.1 bt365.1 bt365.2.1 bt365.2.2.1).bind fun t374 => (customslaw38_ChannelSteps.j5 k x1 x2 (!t374) x320000 x320001 x320002)) else (customslaw38_ChannelSteps.j5 k x1 x2 true x320000 x320001 x320002)) else (customslaw38_ChannelSteps.j5 k x1 x2 true x320000 x320001 x320002))))
def customslaw38_ChannelSteps.j5 : Nat → Int → Int → Bool → Int → List Int → List Int → Option (Bool)
  | 0, _, _, _, _, _, _ => none
  | k + 1, x1, x2, x128, x320000, x320001, x320002 => if x128 = true then (some false) else ((channel_Lose.f x320000 x320001 x320002 x2).bind fun bt375 => ((customsref33_Lose.f x320000 x320001 x320002 x2).bind fun bt383 => (if bt375.2.2.2 = bt383.2.2.2 then ((customsref33_SameLine.f k bt375.1 bt375.2.1 bt375.2.2.1 bt383.1 bt383.2.1 bt383.2.2.1).bind fun t391 => (customslaw38_ChannelSteps.j6 k x1 x2 (!t391) x320000 x320001 x320002)) else (customslaw38_ChannelSteps.j6 k x1 x2 true x320000 x320001 x320002))))
def customslaw38_ChannelSteps.j6 : Nat → Int → Int → Bool → Int → List Int → List Int → Option (Bool)
  | 0, _, _, _, _, _, _ => none
  | k + 1, x1, x2, x149, x320000, x320001, x320002 => if x149 = true then (some false) else ((channel_Repeat.f x320000 x320001 x320002 x2).bind fun bt392 => ((customsref33_Repeat.f k x320000 x320001 x320002 x2).bind fun bt400 => (if bt392.2.2.2 = bt400.2.2.2 then ((customsref33_SameLine.f k bt392.1 bt392.2.1 bt392.2.2.1 bt400.1 bt400.2.1 bt400.2.2.1).bind fun t408 => (customslaw38_ChannelSteps.j7 k x1 x2 (!t408) x320000 x320001 x320002)) else (customslaw38_ChannelSteps.j7 k x1 x2 true x320000 x320001 x320002))))
def customslaw38_ChannelSteps.j7 : Nat → Int → Int → Bool → Int → List Int → List Int → Option (Bool)
  | 0, _, _, _, _, _, _ => none
  | k + 1, x1, x2, x170, x320000, x320001, x320002 => if x170 = true then (some false) else ((channel_Confirm.f x320000 x320001 x320002 x2).bind fun bt409 => ((customsref33_Confirm.f x320000 x320001 x320002 x2).bind fun bt417 => (if bt409.2.2.2 = bt417.2.2.2 then ((customsref33_SameLine.f k bt409.1 bt409.2.1 bt409.2.2.1 bt417.1 bt417.2.1 bt417.2.2.1).bind fun t425 => (customslaw38_ChannelSteps.j8 k x1 x2 (!t425) x320000 x320001 x320002)) else (customslaw38_ChannelSteps.j8 k x1 x2 true x320000 x320001 x320002))))
def customslaw38_ChannelSteps.j8 : Nat → Int → Int → Bool → Int → List Int → List Int → Option (Bool)
  | 0, _, _, _, _, _, _ => none
  | k + 1, x1, x2, x191, x320000, x320001, x320002 => if x191 = true then (some false) else ((channel_Forget.f x320000 x320001 x320002 x2).bind fun bt426 => ((customsref33_Forget.f x320000 x320001 x320002 x2).bind fun bt434 => (if bt426.2.2.2 = bt434.2.2.2 then ((customsref33_SameLine.f k bt426.1 bt426.2.1 bt426.2.2.1 bt434.1 bt434.2.1 bt434.2.2.1).bind fun t442 => (if t442 = true then ((channel_Idle.f x320000 x320001 x320002 x1).bind fun t443 => ((customsref33_Idle.f x320000 x320001 x320002 x1).bind fun t444 => (if (t443 == t444) = true then ((customslaw38_awake.f k).bind fun t445 => (some t445)) else (some false)))) else (some false))) else (some false))))
def customslaw38_ChannelSteps.j1 : Nat → Int → Int → Int → Int → List Int → List Int → Int → List Int → Option (Bool)
  | 0, _, _, _, _, _, _, _, _ => none
  | k + 1, x1, x2, x3, x319000, x319001, x319002, x320000, x320001 => customslaw38_ChannelSteps.l1 k x1 x2 x3 0 x319000 x319001 x319002 x320000 x320001 ([] : List Int)
def customslaw38_ChannelSteps.l1 : Nat → Int → Int → Int → Int → Int → List Int → List Int → Int → List Int → List Int → Option (Bool)
  | 0, _, _, _, _, _, _, _, _, _, _ => none
  | k + 1, x1, x2, x3, x13, x319000, x319001, x319002, x320000, x320001, x320002 => if x13 < (x319002.length : Int) then (if x13 < 10 then (if 0 ≤ x13 then ((customsmade_Within.f (rd x319002 x13) 9).bind fun t327 => (if x320002.length < 17592186044416 then (customslaw38_ChannelSteps.l1 k x1 x2 x3 (wrap64 (x13 + 1)) x319000 x319001 x319002 x320000 x320001 (x320002 ++ [t327])) else (none))) else (none)) else ((customsmade_Within.f x1 12).bind fun t331 => ((customsmade_Within.f x2 11).bind fun t332 => ((customsmade_Within.f x3 9).bind fun t333 => (customslaw38_ChannelSteps.j3 k t331 t332 t333 x320000 x320001 x320002))))) else ((customsmade_Within.f x1 12).bind fun t334 => ((customsmade_Within.f x2 11).bind fun t335 => ((customsmade_Within.f x3 9).bind fun t336 => (customslaw38_ChannelSteps.j3 k t334 t335 t336 x320000 x320001 x320002))))
def customslaw38_ChannelSteps.l0 : Nat → Int → Int → Int → Int → Int → List Int → List Int → Int → List Int → Option (Bool)
  | 0, _, _, _, _, _, _, _, _, _ => none
  | k + 1, x1, x2, x3, x12, x319000, x319001, x319002, x320000, x320001 => if x12 < (x319001.length : Int) then (if x12 < 10 then (if 0 ≤ x12 then ((customsmade_Within.f (rd x319001 x12) 9).bind fun t322 => (if x320001.length < 17592186044416 then (customslaw38_ChannelSteps.l0 k x1 x2 x3 (wrap64 (x12 + 1)) x319000 x319001 x319002 x320000 (x320001 ++ [wrap64 (1 + t322)])) else (none))) else (none)) else (customslaw38_ChannelSteps.j1 k x1 x2 x3 x319000 x319001 x319002 x320000 x320001)) else (customslaw38_ChannelSteps.j1 k x1 x2 x3 x319000 x319001 x319002 x320000 x320001)
end
def customslaw38_ChannelSteps.f (k : Nat) (a0_0 : Int) (l0_1 : List Int) (l0_2 : List Int) (a1 : Int) (a2 : Int) (a3 : Int) (a4 : Bool) : Option (Bool) := if a4 = true then (customslaw38_ChannelSteps.j3 k a1 a2 a3 a0_0 l0_1 l0_2) else ((customsmade_Within.f a0_0 5).bind fun t320 => (customslaw38_ChannelSteps.l0 k a1 a2 a3 0 a0_0 l0_1 l0_2 t320 ([] : List Int)))
theorem customslaw38_ChannelSteps.mono_l : ∀ k, (∀ y0 y1 y2 y3 y4 y5, LeO (customslaw38_ChannelSteps.j3 k y0 y1 y2 y3 y4 y5) (customslaw38_ChannelSteps.j3 (k + 1) y0 y1 y2 y3 y4 y5)) ∧ (∀ y0 y1 y2 y3 y4 y5 y6, LeO (customslaw38_ChannelSteps.j4 k y0 y1 y2 y3 y4 y5 y6) (customslaw38_ChannelSteps.j4 (k + 1) y0 y1 y2 y3 y4 y5 y6)) ∧ (∀ y0 y1 y2 y3 y4 y5, LeO (customslaw38_ChannelSteps.j5 k y0 y1 y2 y3 y4 y5) (customslaw38_ChannelSteps.j5 (k + 1) y0 y1 y2 y3 y4 y5)) ∧ (∀ y0 y1 y2 y3 y4 y5, LeO (customslaw38_ChannelSteps.j6 k y0 y1 y2 y3 y4 y5) (customslaw38_ChannelSteps.j6 (k + 1) y0 y1 y2 y3 y4 y5)) ∧ (∀ y0 y1 y2 y3 y4 y5, LeO (customslaw38_ChannelSteps.j7 k y0 y1 y2 y3 y4 y5) (customslaw38_ChannelSteps.j7 (k + 1) y0 y1 y2 y3 y4 y5)) ∧ (∀ y0 y1 y2 y3 y4 y5, LeO (customslaw38_ChannelSteps.j8 k y0 y1 y2 y3 y4 y5) (customslaw38_ChannelSteps.j8 (k + 1) y0 y1 y2 y3 y4 y5)) ∧ (∀ y0 y1 y2 y3 y4 y5 y6 y7, LeO (customslaw38_ChannelSteps.j1 k y0 y1 y2 y3 y4 y5 y6 y7) (customslaw38_ChannelSteps.j1 (k + 1) y0 y1 y2 y3 y4 y5 y6 y7)) ∧ (∀ y0 y1 y2 y3 y4 y5 y6 y7 y8 y9, LeO (customslaw38_ChannelSteps.l1 k y0 y1 y2 y3 y4 y5 y6 y7 y8 y9) (customslaw38_ChannelSteps.l1 (k + 1) y0 y1 y2 y3 y4 y5 y6 y7 y8 y9)) ∧ (∀ y0 y1 y2 y3 y4 y5 y6 y7 y8, LeO (customslaw38_ChannelSteps.l0 k y0 y1 y2 y3 y4 y5 y6 y7 y8) (customslaw38_ChannelSteps.l0 (k + 1) y0 y1 y2 y3 y4 y5 y6 y7 y8))
  | 0 => ⟨fun _ _ _ _ _ _ r h => by simp [customslaw38_ChannelSteps.j3] at h, fun _ _ _ _ _ _ _ r h => by simp [customslaw38_ChannelSteps.j4] at h, fun _ _ _ _ _ _ r h => by simp [customslaw38_ChannelSteps.j5] at h, fun _ _ _ _ _ _ r h => by simp [customslaw38_ChannelSteps.j6] at h, fun _ _ _ _ _ _ r h => by simp [customslaw38_ChannelSteps.j7] at h, fun _ _ _ _ _ _ r h => by simp [customslaw38_ChannelSteps.j8] at h, fun _ _ _ _ _ _ _ _ r h => by simp [customslaw38_ChannelSteps.j1] at h, fun _ _ _ _ _ _ _ _ _ _ r h => by simp [customslaw38_ChannelSteps.l1] at h, fun _ _ _ _ _ _ _ _ _ r h => by simp [customslaw38_ChannelSteps.l0] at h⟩
  | k + 1 => by
    obtain ⟨ih0, ih1, ih2, ih3, ih4, ih5, ih6, ih7, ih8⟩ := customslaw38_ChannelSteps.mono_l k
    refine ⟨?_, ?_, ?_, ?_, ?_, ?_, ?_, ?_, ?_⟩
    · intro y0 y1 y2 y3 y4 y5
      unfold customslaw38_ChannelSteps.j3
      repeat' first
      | (with_reducible exact ih0 _ _ _ _ _ _)
      | (with_reducible exact ih1 _ _ _ _ _ _ _)
      | (with_reducible exact ih2 _ _ _ _ _ _)
      | (with_reducible exact ih3 _ _ _ _ _ _)
      | (with_reducible exact ih4 _ _ _ _ _ _)
      | (with_reducible exact ih5 _ _ _ _ _ _)
      | (with_reducible exact ih6 _ _ _ _ _ _ _ _)
      | (with_reducible exact ih7 _ _ _ _ _ _ _ _ _ _)
      | (with_reducible exact ih8 _ _ _ _ _ _ _ _ _)
      | (with_reducible exact channel_Deliver.mono _ _ _ _ _ _)
      | (with_reducible exact channel_Transmit.mono _ _ _ _ _)
      | (with_reducible exact customslaw38_awake.mono _)
      | (with_reducible exact customsref33_Deliver.mono _ _ _ _ _ _)
      | (with_reducible exact customsref33_Repeat.mono _ _ _ _ _)
      | (with_reducible exact customsref33_SameLine.mono _ _ _ _ _ _ _)
      | (with_reducible exact customsref33_Transmit.mono _ _ _ _ _)
      | (with_reducible exact LeO.refl _)
      | (with_reducible exact LeO.none _)
      | (with_reducible refine LeO.ite ?_ ?_)
      | (with_reducible refine LeO.bind ?_ (fun _ => ?_))
      | exact ih0 _ _ _ _ _ _
      | exact ih1 _ _ _ _ _ _ _
      | exact ih2 _ _ _ _ _ _
      | exact ih3 _ _ _ _ _ _
      | exact ih4 _ _ _ _ _ _
      | exact ih5 _ _ _ _ _ _
      | exact ih6 _ _ _ _ _ _ _ _
      | exact ih7 _ _ _ _ _ _ _ _ _ _
      | exact ih8 _ _ _ _ _ _ _ _ _
      | exact channel_Deliver.mono _ _ _ _ _ _
      | exact channel_Transmit.mono _ _ _ _ _
      | exact customslaw38_awake.mono _
      | exact customsref33_Deliver.mono _ _ _ _ _ _
      | exact customsref33_Repeat.mono _ _ _ _ _
      | exact customsref33_SameLine.mono _ _ _ _ _ _ _
      | exact customsref33_Transmit.mono _ _ _ _ _
      | exact LeO.none _
      | refine LeO.ite ?_ ?_
      | refine LeO.bind ?_ (fun _ => ?_)
    · intro y0 y1 y2 y3 y4 y5 y6
      unfold customslaw38_ChannelSteps.j4
      repeat' first
      | (with_reducible exact ih0 _ _ _ _ _ _)
      | (with_reducible exact ih1 _ _ _ _ _ _ _)
      | (with_reducible exact ih2 _ _ _ _ _ _)
      | (with_reducible exact ih3 _ _ _ _ _ _)
      | (with_reducible exact ih4 _ _ _ _ _ _)
      | (with_reducible exact ih5 _ _ _ _ _ _)
      | (with_reducible exact ih6 _ _ _ _ _ _ _ _)
      | (with_reducible exact ih7 _ _ _ _ _ _ _ _ _ _)
      | (with_reducible exact ih8 _ _ _ _ _ _ _ _ _)
      | (with_reducible exact channel_Deliver.mono _ _ _ _ _ _)
      | (with_reducible exact channel_Transmit.mono _ _ _ _ _)
      | (with_reducible exact customslaw38_awake.mono _)
      | (with_reducible exact customsref33_Deliver.mono _ _ _ _ _ _)
      | (with_reducible exact customsref33_Repeat.mono _ _ _ _ _)
      | (with_reducible exact customsref33_SameLine.mono _ _ _ _ _ _ _)
      | (with_reducible exact customsref33_Transmit.mono _ _ _ _ _)
      | (with_reducible exact LeO.refl _)
      | (with_reducible exact LeO.none _)
      | (with_reducible refine LeO.ite ?_ ?_)
      | (with_reducible refine LeO.bind ?_ (fun _ => ?_))
      | exact ih0 _ _ _ _ _ _
      | exact ih1 _ _ _ _ _ _ _
      | exact ih2 _ _ _ _ _ _
      | exact ih3 _ _ _ _ _ _
      | exact ih4 _ _ _ _ _ _
      | exact ih5 _ _ _ _ _ _
      | exact ih6 _ _ _ _ _ _ _ _
      | exact ih7 _ _ _ _ _ _ _ _ _ _
      | exact ih8 _ _ _ _ _ _ _ _ _
      | exact channel_Deliver.mono _ _ _ _ _ _
      | exact channel_Transmit.mono _ _ _ _ _
      | exact customslaw38_awake.mono _
      | exact customsref33_Deliver.mono _ _ _ _ _ _
      | exact customsref33_Repeat.mono _ _ _ _ _
      | exact customsref33_SameLine.mono _ _ _ _ _ _ _
      | exact customsref33_Transmit.mono _ _ _ _ _
      | exact LeO.none _
      | refine LeO.ite ?_ ?_
      | refine LeO.bind ?_ (fun _ => ?_)
    · intro y0 y1 y2 y3 y4 y5
      unfold customslaw38_ChannelSteps.j5
      repeat' first
      | (with_reducible exact ih0 _ _ _ _ _ _)
      | (with_reducible exact ih1 _ _ _ _ _ _ _)
      | (with_reducible exact ih2 _ _ _ _ _ _)
      | (with_reducible exact ih3 _ _ _ _ _ _)
      | (with_reducible exact ih4 _ _ _ _ _ _)
      | (with_reducible exact ih5 _ _ _ _ _ _)
      | (with_reducible exact ih6 _ _ _ _ _ _ _ _)
      | (with_reducible exact ih7 _ _ _ _ _ _ _ _ _ _)
      | (with_reducible exact ih8 _ _ _ _ _ _ _ _ _)
      | (with_reducible exact channel_Deliver.mono _ _ _ _ _ _)
      | (with_reducible exact channel_Transmit.mono _ _ _ _ _)
      | (with_reducible exact customslaw38_awake.mono _)
      | (with_reducible exact customsref33_Deliver.mono _ _ _ _ _ _)
      | (with_reducible exact customsref33_Repeat.mono _ _ _ _ _)
      | (with_reducible exact customsref33_SameLine.mono _ _ _ _ _ _ _)
      | (with_reducible exact customsref33_Transmit.mono _ _ _ _ _)
      | (with_reducible exact LeO.refl _)
      | (with_reducible exact LeO.none _)
      | (with_reducible refine LeO.ite ?_ ?_)
      | (with_reducible refine LeO.bind ?_ (fun _ => ?_))
      | exact ih0 _ _ _ _ _ _
      | exact ih1 _ _ _ _ _ _ _
      | exact ih2 _ _ _ _ _ _
      | exact ih3 _ _ _ _ _ _
      | exact ih4 _ _ _ _ _ _
      | exact ih5 _ _ _ _ _ _
      | exact ih6 _ _ _ _ _ _ _ _
      | exact ih7 _ _ _ _ _ _ _ _ _ _
      | exact ih8 _ _ _ _ _ _ _ _ _
      | exact channel_Deliver.mono _ _ _ _ _ _
      | exact channel_Transmit.mono _ _ _ _ _
      | exact customslaw38_awake.mono _
      | exact customsref33_Deliver.mono _ _ _ _ _ _
      | exact customsref33_Repeat.mono _ _ _ _ _
      | exact customsref33_SameLine.mono _ _ _ _ _ _ _
      | exact customsref33_Transmit.mono _ _ _ _ _
      | exact LeO.none _
      | refine LeO.ite ?_ ?_
      | refine LeO.bind ?_ (fun _ => ?_)
    · intro y0 y1 y2 y3 y4 y5
      unfold customslaw38_ChannelSteps.j6
      repeat' first
      | (with_reducible exact ih0 _ _ _ _ _ _)
      | (with_reducible exact ih1 _ _ _ _ _ _ _)
      | (with_reducible exact ih2 _ _ _ _ _ _)
      | (with_reducible exact ih3 _ _ _ _ _ _)
      | (with_reducible exact ih4 _ _ _ _ _ _)
      | (with_reducible exact ih5 _ _ _ _ _ _)
      | (with_reducible exact ih6 _ _ _ _ _ _ _ _)
      | (with_reducible exact ih7 _ _ _ _ _ _ _ _ _ _)
      | (with_reducible exact ih8 _ _ _ _ _ _ _ _ _)
      | (with_reducible exact channel_Deliver.mono _ _ _ _ _ _)
      | (with_reducible exact channel_Transmit.mono _ _ _ _ _)
      | (with_reducible exact customslaw38_awake.mono _)
      | (with_reducible exact customsref33_Deliver.mono _ _ _ _ _ _)
      | (with_reducible exact customsref33_Repeat.mono _ _ _ _ _)
      | (with_reducible exact customsref33_SameLine.mono _ _ _ _ _ _ _)
      | (with_reducible exact customsref33_Transmit.mono _ _ _ _ _)
      | (with_reducible exact LeO.refl _)
      | (with_reducible exact LeO.none _)
      | (with_reducible refine LeO.ite ?_ ?_)
      | (with_reducible refine LeO.bind ?_ (fun _ => ?_))
      | exact ih0 _ _ _ _ _ _
      | exact ih1 _ _ _ _ _ _ _
      | exact ih2 _ _ _ _ _ _
      | exact ih3 _ _ _ _ _ _
      | exact ih4 _ _ _ _ _ _
      | exact ih5 _ _ _ _ _ _
      | exact ih6 _ _ _ _ _ _ _ _
      | exact ih7 _ _ _ _ _ _ _ _ _ _
      | exact ih8 _ _ _ _ _ _ _ _ _
      | exact channel_Deliver.mono _ _ _ _ _ _
      | exact channel_Transmit.mono _ _ _ _ _
      | exact customslaw38_awake.mono _
      | exact customsref33_Deliver.mono _ _ _ _ _ _
      | exact customsref33_Repeat.mono _ _ _ _ _
      | exact customsref33_SameLine.mono _ _ _ _ _ _ _
      | exact customsref33_Transmit.mono _ _ _ _ _
      | exact LeO.none _
      | refine LeO.ite ?_ ?_
      | refine LeO.bind ?_ (fun _ => ?_)
    · intro y0 y1 y2 y3 y4 y5
      unfold customslaw38_ChannelSteps.j7
      repeat' first
      | (with_reducible exact ih0 _ _ _ _ _ _)
      | (with_reducible exact ih1 _ _ _ _ _ _ _)
      | (with_reducible exact ih2 _ _ _ _ _ _)
      | (with_reducible exact ih3 _ _ _ _ _ _)
      | (with_reducible exact ih4 _ _ _ _ _ _)
      | (with_reducible exact ih5 _ _ _ _ _ _)
      | (with_reducible exact ih6 _ _ _ _ _ _ _ _)
      | (with_reducible exact ih7 _ _ _ _ _ _ _ _ _ _)
      | (with_reducible exact ih8 _ _ _ _ _ _ _ _ _)
      | (with_reducible exact channel_Deliver.mono _ _ _ _ _ _)
      | (with_reducible exact channel_Transmit.mono _ _ _ _ _)
      | (with_reducible exact customslaw38_awake.mono _)
      | (with_reducible exact customsref33_Deliver.mono _ _ _ _ _ _)
      | (with_reducible exact customsref33_Repeat.mono _ _ _ _ _)
      | (with_reducible exact customsref33_SameLine.mono _ _ _ _ _ _ _)
      | (with_reducible exact customsref33_Transmit.mono _ _ _ _ _)
      | (with_reducible exact LeO.refl _)
      | (with_reducible exact LeO.none _)
      | (with_reducible refine LeO.ite ?_ ?_)
      | (with_reducible refine LeO.bind ?_ (fun _ => ?_))
      | exact ih0 _ _ _ _ _ _
      | exact ih1 _ _ _ _ _ _ _
      | exact ih2 _ _ _ _ _ _
      | exact ih3 _ _ _ _ _ _
      | exact ih4 _ _ _ _ _ _
      | exact ih5 _ _ _ _ _ _
      | exact ih6 _ _ _ _ _ _ _ _
      | exact ih7 _ _ _ _ _ _ _ _ _ _
      | exact ih8 _ _ _ _ _ _ _ _ _
      | exact channel_Deliver.mono _ _ _ _ _ _
      | exact channel_Transmit.mono _ _ _ _ _
      | exact customslaw38_awake.mono _
      | exact customsref33_Deliver.mono _ _ _ _ _ _
      | exact customsref33_Repeat.mono _ _ _ _ _
      | exact customsref33_SameLine.mono _ _ _ _ _ _ _
      | exact customsref33_Transmit.mono _ _ _ _ _
      | exact LeO.none _
      | refine LeO.ite ?_ ?_
      | refine LeO.bind ?_ (fun _ => ?_)
    · intro y0 y1 y2 y3 y4 y5
      unfold customslaw38_ChannelSteps.j8
      repeat' first
      | (with_reducible exact ih0 _ _ _ _ _ _)
      | (with_reducible exact ih1 _ _ _ _ _ _ _)
      | (with_reducible exact ih2 _ _ _ _ _ _)
      | (with_reducible exact ih3 _ _ _ _ _ _)
      | (with_reducible exact ih4 _ _ _ _ _ _)
      | (with_reducible exact ih5 _ _ _ _ _ _)
      | (with_reducible exact ih6 _ _ _ _ _ _ _ _)
      | (with_reducible exact ih7 _ _ _ _ _ _ _ _ _ _)
      | (with_reducible exact ih8 _ _ _ _ _ _ _ _ _)
      | (with_reducible exact channel_Deliver.mono _ _ _ _ _ _)
      | (with_reducible exact channel_Transmit.mono _ _ _ _ _)
      | (with_reducible exact customslaw38_awake.mono _)
      | (with_reducible exact customsref33_Deliver.mono _ _ _ _ _ _)
      | (with_reducible exact customsref33_Repeat.mono _ _ _ _ _)
      | (with_reducible exact customsref33_SameLine.mono _ _ _ _ _ _ _)
      | (with_reducible exact customsref33_Transmit.mono _ _ _ _ _)
      | (with_reducible exact LeO.refl _)
      | (with_reducible exact LeO.none _)
      | (with_reducible refine LeO.ite ?_ ?_)
      | (with_reducible refine LeO.bind ?_ (fun _ => ?_))
      | exact ih0 _ _ _ _ _ _
      | exact ih1 _ _ _ _ _ _ _
      | exact ih2 _ _ _ _ _ _
      | exact ih3 _ _ _ _ _ _
      | exact ih4 _ _ _ _ _ _
      | exact ih5 _ _ _ _ _ _
      | exact ih6 _ _ _ _ _ _ _ _
      | exact ih7 _ _ _ _ _ _ _ _ _ _
      | exact ih8 _ _ _ _ _ _ _ _ _
      | exact channel_Deliver.mono _ _ _ _ _ _
      | exact channel_Transmit.mono _ _ _ _ _
      | exact customslaw38_awake.mono _
      | exact customsref33_Deliver.mono _ _ _ _ _ _
      | exact customsref33_Repeat.mono _ _ _ _ _
      | exact customsref33_SameLine.mono _ _ _ _ _ _ _
      | exact customsref33_Transmit.mono _ _ _ _ _
      | exact LeO.none _
      | refine LeO.ite ?_ ?_
      | refine LeO.bind ?_ (fun _ => ?_)
    · intro y0 y1 y2 y3 y4 y5 y6 y7
      unfold customslaw38_ChannelSteps.j1
      repeat' first
      | (with_reducible exact ih0 _ _ _ _ _ _)
      | (with_reducible exact ih1 _ _ _ _ _ _ _)
      | (with_reducible exact ih2 _ _ _ _ _ _)
      | (with_reducible exact ih3 _ _ _ _ _ _)
      | (with_reducible exact ih4 _ _ _ _ _ _)
      | (with_reducible exact ih5 _ _ _ _ _ _)
      | (with_reducible exact ih6 _ _ _ _ _ _ _ _)
      | (with_reducible exact ih7 _ _ _ _ _ _ _ _ _ _)
      | (with_reducible exact ih8 _ _ _ _ _ _ _ _ _)
      | (with_reducible exact channel_Deliver.mono _ _ _ _ _ _)
      | (with_reducible exact channel_Transmit.mono _ _ _ _ _)
      | (with_reducible exact customslaw38_awake.mono _)
      | (with_reducible exact customsref33_Deliver.mono _ _ _ _ _ _)
      | (with_reducible exact customsref33_Repeat.mono _ _ _ _ _)
      | (with_reducible exact customsref33_SameLine.mono _ _ _ _ _ _ _)
      | (with_reducible exact customsref33_Transmit.mono _ _ _ _ _)
      | (with_reducible exact LeO.refl _)
      | (with_reducible exact LeO.none _)
      | (with_reducible refine LeO.ite ?_ ?_)
      | (with_reducible refine LeO.bind ?_ (fun _ => ?_))
      | exact ih0 _ _ _ _ _ _
      | exact ih1 _ _ _ _ _ _ _
      | exact ih2 _ _ _ _ _ _
      | exact ih3 _ _ _ _ _ _
      | exact ih4 _ _ _ _ _ _
      | exact ih5 _ _ _ _ _ _
      | exact ih6 _ _ _ _ _ _ _ _
      | exact ih7 _ _ _ _ _ _ _ _ _ _
      | exact ih8 _ _ _ _ _ _ _ _ _
      | exact channel_Deliver.mono _ _ _ _ _ _
      | exact channel_Transmit.mono _ _ _ _ _
      | exact customslaw38_awake.mono _
      | exact customsref33_Deliver.mono _ _ _ _ _ _
      | exact customsref33_Repeat.mono _ _ _ _ _
      | exact customsref33_SameLine.mono _ _ _ _ _ _ _
      | exact customsref33_Transmit.mono _ _ _ _ _
      | exact LeO.none _
      | refine LeO.ite ?_ ?_
      | refine LeO.bind ?_ (fun _ => ?_)
    · intro y0 y1 y2 y3 y4 y5 y6 y7 y8 y9
      unfold customslaw38_ChannelSteps.l1
      repeat' first
      | (with_reducible exact ih0 _ _ _ _ _ _)
      | (with_reducible exact ih1 _ _ _ _ _ _ _)
      | (with_reducible exact ih2 _ _ _ _ _ _)
      | (with_reducible exact ih3 _ _ _ _ _ _)
      | (with_reducible exact ih4 _ _ _ _ _ _)
      | (with_reducible exact ih5 _ _ _ _ _ _)
      | (with_reducible exact ih6 _ _ _ _ _ _ _ _)
      | (with_reducible exact ih7 _ _ _ _ _ _ _ _ _ _)
      | (with_reducible exact ih8 _ _ _ _ _ _ _ _ _)
      | (with_reducible exact channel_Deliver.mono _ _ _ _ _ _)
      | (with_reducible exact channel_Transmit.mono _ _ _ _ _)
      | (with_reducible exact customslaw38_awake.mono _)
      | (with_reducible exact customsref33_Deliver.mono _ _ _ _ _ _)
      | (with_reducible exact customsref33_Repeat.mono _ _ _ _ _)
      | (with_reducible exact customsref33_SameLine.mono _ _ _ _ _ _ _)
      | (with_reducible exact customsref33_Transmit.mono _ _ _ _ _)
      | (with_reducible exact LeO.refl _)
      | (with_reducible exact LeO.none _)
      | (with_reducible refine LeO.ite ?_ ?_)
      | (with_reducible refine LeO.bind ?_ (fun _ => ?_))
      | exact ih0 _ _ _ _ _ _
      | exact ih1 _ _ _ _ _ _ _
      | exact ih2 _ _ _ _ _ _
      | exact ih3 _ _ _ _ _ _
      | exact ih4 _ _ _ _ _ _
      | exact ih5 _ _ _ _ _ _
      | exact ih6 _ _ _ _ _ _ _ _
      | exact ih7 _ _ _ _ _ _ _ _ _ _
      | exact ih8 _ _ _ _ _ _ _ _ _
      | exact channel_Deliver.mono _ _ _ _ _ _
      | exact channel_Transmit.mono _ _ _ _ _
      | exact customslaw38_awake.mono _
      | exact customsref33_Deliver.mono _ _ _ _ _ _
      | exact customsref33_Repeat.mono _ _ _ _ _
      | exact customsref33_SameLine.mono _ _ _ _ _ _ _
      | exact customsref33_Transmit.mono _ _ _ _ _
      | exact LeO.none _
      | refine LeO.ite ?_ ?_
      | refine LeO.bind ?_ (fun _ => ?_)
    · intro y0 y1 y2 y3 y4 y5 y6 y7 y8
      unfold customslaw38_ChannelSteps.l0
      repeat' first
      | (with_reducible exact ih0 _ _ _ _ _ _)
      | (with_reducible exact ih1 _ _ _ _ _ _ _)
      | (with_reducible exact ih2 _ _ _ _ _ _)
      | (with_reducible exact ih3 _ _ _ _ _ _)
      | (with_reducible exact ih4 _ _ _ _ _ _)
      | (with_reducible exact ih5 _ _ _ _ _ _)
      | (with_reducible exact ih6 _ _ _ _ _ _ _ _)
      | (with_reducible exact ih7 _ _ _ _ _ _ _ _ _ _)
      | (with_reducible exact ih8 _ _ _ _ _ _ _ _ _)
      | (with_reducible exact channel_Deliver.mono _ _ _ _ _ _)
      | (with_reducible exact channel_Transmit.mono _ _ _ _ _)
      | (with_reducible exact customslaw38_awake.mono _)
      | (with_reducible exact customsref33_Deliver.mono _ _ _ _ _ _)
      | (with_reducible exact customsref33_Repeat.mono _ _ _ _ _)
      | (with_reducible exact customsref33_SameLine.mono _ _ _ _ _ _ _)
      | (with_reducible exact customsref33_Transmit.mono _ _ _ _ _)
      | (with_reducible exact LeO.refl _)
      | (with_reducible exact LeO.none _)
      | (with_reducible refine LeO.ite ?_ ?_)
      | (with_reducible refine LeO.bind ?_ (fun _ => ?_))
      | exact ih0 _ _ _ _ _ _
      | exact ih1 _ _ _ _ _ _ _
      | exact ih2 _ _ _ _ _ _
      | exact ih3 _ _ _ _ _ _
      | exact ih4 _ _ _ _ _ _
      | exact ih5 _ _ _ _ _ _
      | exact ih6 _ _ _ _ _ _ _ _
      | exact ih7 _ _ _ _ _ _ _ _ _ _
      | exact ih8 _ _ _ _ _ _ _ _ _
      | exact channel_Deliver.mono _ _ _ _ _ _
      | exact channel_Transmit.mono _ _ _ _ _
      | exact customslaw38_awake.mono _
      | exact customsref33_Deliver.mono _ _ _ _ _ _
      | exact customsref33_Repeat.mono _ _ _ _ _
      | exact customsref33_SameLine.mono _ _ _ _ _ _ _
      | exact customsref33_Transmit.mono _ _ _ _ _
      | exact LeO.none _
      | refine LeO.ite ?_ ?_
      | refine LeO.bind ?_ (fun _ => ?_)
theorem customslaw38_ChannelSteps.mono : ∀ a0 a1 a2 a3 a4 a5 a6 k, LeO (customslaw38_ChannelSteps.f k a0 a1 a2 a3 a4 a5 a6) (customslaw38_ChannelSteps.f (k + 1) a0 a1 a2 a3 a4 a5 a6) := by
  intro a0 a1 a2 a3 a4 a5 a6 k
  obtain ⟨ih0, ih1, ih2, ih3, ih4, ih5, ih6, ih7, ih8⟩ := customslaw38_ChannelSteps.mono_l k
  unfold customslaw38_ChannelSteps.f
  repeat' first
      | (with_reducible exact ih0 _ _ _ _ _ _)
      | (with_reducible exact ih1 _ _ _ _ _ _ _)
      | (with_reducible exact ih2 _ _ _ _ _ _)
      | (with_reducible exact ih3 _ _ _ _ _ _)
      | (with_reducible exact ih4 _ _ _ _ _ _)
      | (with_reducible exact ih5 _ _ _ _ _ _)
      | (with_reducible exact ih6 _ _ _ _ _ _ _ _)
      | (with_reducible exact ih7 _ _ _ _ _ _ _ _ _ _)
      | (with_reducible exact ih8 _ _ _ _ _ _ _ _ _)
      | (with_reducible exact channel_Deliver.mono _ _ _ _ _ _)
      | (with_reducible exact channel_Transmit.mono _ _ _ _ _)
      | (with_reducible exact customslaw38_awake.mono _)
      | (with_reducible exact customsref33_Deliver.mono _ _ _ _ _ _)
      | (with_reducible exact customsref33_Repeat.mono _ _ _ _ _)
      | (with_reducible exact customsref33_SameLine.mono _ _ _ _ _ _ _)
      | (with_reducible exact customsref33_Transmit.mono _ _ _ _ _)
      | (with_reducible exact LeO.refl _)
      | (with_reducible exact LeO.none _)
      | (with_reducible refine LeO.ite ?_ ?_)
      | (with_reducible refine LeO.bind ?_ (fun _ => ?_))
      | exact ih0 _ _ _ _ _ _
      | exact ih1 _ _ _ _ _ _ _
      | exact ih2 _ _ _ _ _ _
      | exact ih3 _ _ _ _ _ _
      | exact ih4 _ _ _ _ _ _
      | exact ih5 _ _ _ _ _ _
      | exact ih6 _ _ _ _ _ _ _ _
      | exact ih7 _ _ _ _ _ _ _ _ _ _
      | exact ih8 _ _ _ _ _ _ _ _ _
      | exact channel_Deliver.mono _ _ _ _ _ _
      | exact channel_Transmit.mono _ _ _ _ _
      | exact customslaw38_awake.mono _
      | exact customsref33_Deliver.mono _ _ _ _ _ _
      | exact customsref33_Repeat.mono _ _ _ _ _
      | exact customsref33_SameLine.mono _ _ _ _ _ _ _
      | exact customsref33_Transmit.mono _ _ _ _ _
      | exact LeO.none _
      | refine LeO.ite ?_ ?_
      | refine LeO.bind ?_ (fun _ => ?_)
def customslaw38_ChannelSteps.T7 : Bool × List (List Nat × List Nat) := (true, [([], []), ([0], [0]), ([], []), ([2], [2]), ([], []), ([3, 4], [3, 4]), ([5], [5]), ([6], [6]), ([7], [7]), ([8], [8]), ([1, 9, 7], [1, 9]), ([0, 1, 2, 3, 4, 5, 6, 7, 8, 9, 10], []), ([11, 10, 10, 0, 1, 2, 3, 4, 5, 6, 7, 8, 9, 10], [10, 11])])
def customslaw38_ChannelSteps.B7 : List Nat := [0, 1, 0, 4, 0, 28, 60, 124, 252, 508, 1023, 2047, 4095]
theorem customslaw38_ChannelSteps.tab7 : rtab .any (opsOf Try.f5 7) = customslaw38_ChannelSteps.T7 := by kernel_rfl
theorem customslaw38_ChannelSteps.bits7 : waitsOk customslaw38_ChannelSteps.T7.2 customslaw38_ChannelSteps.B7 = true := by kernel_rfl
def customslaw38_ChannelSteps.T11 : Bool × List (List Nat × List Nat) := (true, [([], []), ([0], [0]), ([], []), ([2], [2]), ([], []), ([3, 4], [3, 4]), ([5], [5]), ([6], [6]), ([7], [7]), ([1, 8, 7], [1, 8]), ([0, 1, 2, 3, 4, 5, 6, 7, 8, 9], []), ([10, 9, 9, 0, 1, 2, 3, 4, 5, 6, 7, 8, 9], [9, 10])])
def customslaw38_ChannelSteps.B11 : List Nat := [0, 1, 0, 4, 0, 28, 60, 124, 252, 511, 1023, 2047]
theorem customslaw38_ChannelSteps.tab11 : rtab .any (opsOf Try.f5 11) = customslaw38_ChannelSteps.T11 := by kernel_rfl
theorem customslaw38_ChannelSteps.bits11 : waitsOk customslaw38_ChannelSteps.T11.2 customslaw38_ChannelSteps.B11 = true := by kernel_rfl
def customslaw38_ChannelSteps.T35 : Bool × List (List Nat × List Nat) := (true, [([], []), ([], []), ([0, 1], [0, 1]), ([2], [2]), ([3], [3]), ([3], [3]), ([4, 5, 3, 3], [3, 4, 5]), ([3, 6], [3, 6]), ([7, 6], [7]), ([8], [8]), ([8], [8]), ([9, 10, 8, 8], [8, 9, 10]), ([8], [8]), ([8], [8]), ([12, 13, 11, 8], [8, 12, 13]), ([11, 14, 8], [8, 11, 14]), ([8, 15], [8, 15]), ([16, 14], [16]), ([17, 17], [17]), ([17, 18], [17, 18]), ([19, 18, 0, 1, 2, 3, 4, 5, 6, 7, 8, 9, 10, 11, 12, 13, 14, 15, 16, 17, 18, 19], [19])])
def customslaw38_ChannelSteps.B35 : List Nat := [0, 0, 3, 7, 15, 15, 63, 127, 255, 511, 511, 2047, 511, 511, 16383, 32767, 65535, 131071, 262143, 524287, 1048575]
theorem customslaw38_ChannelSteps.tab35 : rtab .any (opsOf Try.f5 35) = customslaw38_ChannelSteps.T35 := by kernel_rfl
theorem customslaw38_ChannelSteps.bits35 : waitsOk customslaw38_ChannelSteps.T35.2 customslaw38_ChannelSteps.B35 = true := by kernel_rfl
def codeAt : List Nat → Code → Code
  | [], c => c
  | 0 :: p, .seq a _ => codeAt p a
  | 1 :: p, .seq _ b => codeAt p b
  | 2 :: p, .cond _ a _ => codeAt p a
  | 3 :: p, .cond _ _ b => codeAt p b
  | _ :: p, .block _ c => codeAt p c
  | _ :: p, .loop c => codeAt p c
  | _ :: p, .scope c => codeAt p c
  | _, c => c
set_option maxHeartbeats 8000000 in
set_option maxRecDepth 100000 in
theorem customslaw38_ChannelSteps.tail (w : World) (gb318 : Nat) (gb319 : Nat) (gb345 : Nat) (gb354 : Nat) (kj5 : Nat) (k : Nat) (kj55 : Nat) (x1_5 : Int) (x2_5 : Int) (x320000_5 : Int) (x320001_5 : List Int) (x320002_5 : List Int) (wc : World) (P0_1_ : Nat → Prop) (P0_2_ : Nat → Prop) (Ao100 : Option Addr) (t357 : List Int) (co100 : Nat) (Ao101 : Option Addr) (t360 : List Int) (co101 : Nat) (Ao106 : Option Addr) (t366 : List Int) (co106 : Nat) (Ao107 : Option Addr) (t369 : List Int) (co107 : Nat) (A0_1 : Option Addr) (l0_1 : List Int) (c0_1 : Nat) (A0_2 : Option Addr) (l0_2 : List Int) (c0_2 : Nat) (Ao59 : Option Addr) (co59 : Nat) (Ao60 : Option Addr) (co60 : Nat) (a0_0 : Int) (t356 : Int) (t365 : Int) (x3_5 : Int) (a4 : Bool) (t364 : Int) (t373 : Int) (kq : Nat) (x128_90 : Bool) (z6 z7 z8 z9 z12 z13 z18 z19 z20 z21 z22 z23 z24 z25 z26 z27 z28 z29 z30 z31 z32 z33 z34 z35 z36 z37 z38 z39 z40 z41 z42 z43 z44 z45 z46 z47 z48 z49 z50 z51 z52 z53 z54 z55 z56 z57 z58 z59 z60 z61 z62 z63 z64 z65 z66 z67 z68 z69 z70 z71 z72 z73 z74 z75 z76 z77 z78 z79 z80 z81 z82 z83 z84 z85 z86 z87 z88 z89 z90 z91 z92 z93 z94 z95 z96 z97 z98 z99 z100 z101 z102 z103 z104 z105 z106 z107 z108 z109 z110 z111 z112 z113 z114 z115 z116 z117 z118 z119 z120 z121 z122 z123 z124 z125 z126 z127 z129 z130 z131 z132 z133 z134 z135 z136 z137 z138 z139 z140 z141 z142 z143 z144 z145 z146 z147 z148 z149 z150 z151 z152 z153 z154 z155 z156 z157 z158 z159 z160 z161 z162 z163 z164 z165 z166 z167 z168 z169 z170 z171 z172 z173 z174 z175 z176 z177 z178 z179 z180 z181 z182 z183 z184 z185 z186 z187 z188 z189 z190 z191 z192 z193 z194 z195 z196 z197 z198 z199 z200 z201 z202 z203 z204 z205 z206 z207 z208 z209 z210 z211 z212 z213 z214 z215 z216 z217 z218 z219 z220 z221 z222 z223 : Value) (GE318 : Aside0 (w.heap.size ≤ gb318)) (GE319 : Aside0 (w.heap.size ≤ gb319)) (GE345 : Aside0 (w.heap.size ≤ gb345)) (GE354 : Aside0 (w.heap.size ≤ gb354)) (NB318_319 : Aside0 (gb318 ≠ gb319)) (NB318_345 : Aside0 (gb318 ≠ gb345)) (NB318_354 : Aside0 (gb318 ≠ gb354)) (NB319_318 : Aside0 (gb319 ≠ gb318)) (NB319_345 : Aside0 (gb319 ≠ gb345)) (NB319_354 : Aside0 (gb319 ≠ gb354)) (NB345_318 : Aside0 (gb345 ≠ gb318)) (NB345_319 : Aside0 (gb345 ≠ gb319)) (NB345_354 : Aside0 (gb345 ≠ gb354)) (NB354_318 : Aside0 (gb354 ≠ gb318)) (NB354_319 : Aside0 (gb354 ≠ gb319)) (NB354_345 : Aside0 (gb354 ≠ gb345)) (HJ5 : Aside0 (kj5 + 1 ≤ k)) (HJ55 : Aside0 (kj55 + 1 ≤ kj5)) (HA : Aside0 (customslaw38_ChannelSteps.j5 kq x1_5 x2_5 x128_90 x320000_5 x320001_5 x320002_5 = some true)) (HJ90 : Aside0 (kq ≤ kj55)) (HO_319001 : Aside0 (Kd.V (Kd.int .i64) 3 wc w.heap.size (fun k_ => ((P0_1_ k_ ∨ P0_2_ k_) ∨ w.heap.size ≤ k_) ∧ some k_ ≠ ((.slice Ao100 t357.length co100) : Value).ownBlock ∧ some k_ ≠ ((.slice Ao101 t360.length co101) : Value).ownBlock ∧ some k_ ≠ ((.slice Ao106 t366.length co106) : Value).ownBlock ∧ some k_ ≠ ((.slice Ao107 t369.length co107) : Value).ownBlock ∧ k_ ≠ gb318 ∧ k_ ≠ gb319 ∧ k_ ≠ gb345 ∧ k_ ≠ gb354) (.slice A0_1 l0_1.length c0_1) l0_1)) (HO_319002 : Aside0 (Kd.V (Kd.int .i64) 3 wc w.heap.size (fun k_ => ((P0_1_ k_ ∨ P0_2_ k_) ∨ w.heap.size ≤ k_) ∧ some k_ ≠ ((.slice Ao100 t357.length co100) : Value).ownBlock ∧ some k_ ≠ ((.slice Ao101 t360.length co101) : Value).ownBlock ∧ some k_ ≠ ((.slice Ao106 t366.length co106) : Value).ownBlock ∧ some k_ ≠ ((.slice Ao107 t369.length co107) : Value).ownBlock ∧ k_ ≠ gb318 ∧ k_ ≠ gb319 ∧ k_ ≠ gb345 ∧ k_ ≠ gb354) (.slice A0_2 l0_2.length c0_2) l0_2)) (HO_320001 : Aside0 (Kd.V (Kd.int .i64) 3 wc w.heap.size (fun k_ => ((P0_1_ k_ ∨ P0_2_ k_) ∨ w.heap.size ≤ k_) ∧ some k_ ≠ ((.slice Ao100 t357.length co100) : Value).ownBlock ∧ some k_ ≠ ((.slice Ao101 t360.length co101) : Value).ownBlock ∧ some k_ ≠ ((.slice Ao106 t366.length co106) : Value).ownBlock ∧ some k_ ≠ ((.slice Ao107 t369.length co107) : Value).ownBlock ∧ k_ ≠ gb318 ∧ k_ ≠ gb319 ∧ k_ ≠ gb345 ∧ k_ ≠ gb354) (.slice Ao59 x320001_5.length co59) x320001_5)) (HO_320002 : Aside0 (Kd.V (Kd.int .i64) 3 wc w.heap.size (fun k_ => ((P0_1_ k_ ∨ P0_2_ k_) ∨ w.heap.size ≤ k_) ∧ some k_ ≠ ((.slice Ao100 t357.length co100) : Value).ownBlock ∧ some k_ ≠ ((.slice Ao101 t360.length co101) : Value).ownBlock ∧ some k_ ≠ ((.slice Ao106 t366.length co106) : Value).ownBlock ∧ some k_ ≠ ((.slice Ao107 t369.length co107) : Value).ownBlock ∧ k_ ≠ gb318 ∧ k_ ≠ gb319 ∧ k_ ≠ gb345 ∧ k_ ≠ gb354) (.slice Ao60 x320002_5.length co60) x320002_5)) (HO_346001 : Aside0 (Kd.R (Kd.int .i64) 3 wc w.heap.size (fun k_ => (w.heap.size ≤ k_) ∧ some k_ ≠ ((.slice Ao101 t360.length co101) : Value).ownBlock ∧ some k_ ≠ ((.slice Ao106 t366.length co106) : Value).ownBlock ∧ some k_ ≠ ((.slice Ao107 t369.length co107) : Value).ownBlock) (.slice Ao100 t357.length co100) t357)) (HO_346002 : Aside0 (Kd.R (Kd.int .i64) 3 wc w.heap.size (fun k_ => (w.heap.size ≤ k_) ∧ some k_ ≠ ((.slice Ao100 t357.length co100) : Value).ownBlock ∧ some k_ ≠ ((.slice Ao106 t366.length co106) : Value).ownBlock ∧ some k_ ≠ ((.slice Ao107 t369.length co107) : Value).ownBlock) (.slice Ao101 t360.length co101) t360)) (HO_355001 : Aside0 (Kd.R (Kd.int .i64) 3 wc w.heap.size (fun k_ => (w.heap.size ≤ k_) ∧ some k_ ≠ ((.slice Ao100 t357.length co100) : Value).ownBlock ∧ some k_ ≠ ((.slice Ao101 t360.length co101) : Value).ownBlock ∧ some k_ ≠ ((.slice Ao107 t369.length co107) : Value).ownBlock) (.slice Ao106 t366.length co106) t366)) (HO_355002 : Aside0 (Kd.R (Kd.int .i64) 3 wc w.heap.size (fun k_ => (w.heap.size ≤ k_) ∧ some k_ ≠ ((.slice Ao100 t357.length co100) : Value).ownBlock ∧ some k_ ≠ ((.slice Ao101 t360.length co101) : Value).ownBlock ∧ some k_ ≠ ((.slice Ao106 t366.length co106) : Value).ownBlock) (.slice Ao107 t369.length co107) t369)) (BK318 : Aside0 (wc.heap[gb318]? = some (.cells #[.int .i64 a0_0, (.slice A0_1 l0_1.length c0_1), (.slice A0_2 l0_2.length c0_2)] 24 (0, 0)))) (BK319 : Aside0 (wc.heap[gb319]? = some (.cells #[.int .i64 x320000_5, (.slice Ao59 x320001_5.length co59), (.slice Ao60 x320002_5.length co60)] 24 (0, 0)))) (BK345 : Aside0 (wc.heap[gb345]? = some (.cells #[.int .i64 t356, (.slice Ao100 t357.length co100), (.slice Ao101 t360.length co101)] 24 (0, 0)))) (BK354 : Aside0 (wc.heap[gb354]? = some (.cells #[.int .i64 t365, (.slice Ao106 t366.length co106), (.slice Ao107 t369.length co107)] 24 (0, 0)))) (HB : Aside0 (Below w.heap.size w wc)) :
    let Q' : Exit → Act → World → Prop := bodyPost Try.prog Try.f5 fun e w' => e = .returned (.bool true) ∧ Below w.heap.size w w'
    ∀ (K1 K2 : Act → World → Prop), (∀ (a : Act) (w : World), Code.wp Try.prog (codeAt [1, 1, 1, 1, 1, 1, 1, 1, 1] ((Try.f5.body).getD .skip)) Q' a w → K1 a w) → (∀ (a : Act) (w : World), Code.wp Try.prog (codeAt [1, 1, 1, 1, 1, 1, 1, 1, 0, 1] ((Try.f5.body).getD .skip)) (Exit.then K1 Q') a w → K2 a w) → K2 ⟨#[.agg #[.int .i64 a0_0, .slice A0_1 l0_1.length c0_1, .slice A0_2 l0_2.length c0_2], .int .i64 x1_5, .int .i64 x2_5, .int .i64 x3_5, .bool a4, .pointer (some ⟨gb318, 0, none⟩), z6, z7, z8, z9, .bool false, .pointer (some ⟨gb319, 0, none⟩), z12, z13, .pointer (some ⟨gb345, 0, none⟩), .int .i64 t364, .pointer (some ⟨gb354, 0, none⟩), .int .i64 t373, z18, z19, z20, z21, z22, z23, z24, z25, z26, z27, z28, z29, z30, z31, z32, z33, z34, z35, z36, z37, z38, z39, z40, z41, z42, z43, z44, z45, z46, z47, z48, z49, z50, z51, z52, z53, z54, z55, z56, z57, z58, z59, z60, z61, z62, z63, z64, z65, z66, z67, z68, z69, z70, z71, z72, z73, z74, z75, z76, z77, z78, z79, z80, z81, z82, z83, z84, z85, z86, z87, z88, z89, z90, z91, z92, z93, z94, z95, z96, z97, z98, z99, z100, z101, z102, z103, z104, z105, z106, z107, z108, z109, z110, z111, z112, z113, z114, z115, z116, z117, z118, z119, z120, z121, z122, z123, z124, z125, z126, z127, .bool x128_90, z129, z130, z131, z132, z133, z134, z135, z136, z137, z138, z139, z140, z141, z142, z143, z144, z145, z146, z147, z148, z149, z150, z151, z152, z153, z154, z155, z156, z157, z158, z159, z160, z161, z162, z163, z164, z165, z166, z167, z168, z169, z170, z171, z172, z173, z174, z175, z176, z177, z178, z179, z180, z181, z182, z183, z184, z185, z186, z187, z188, z189, z190, z191, z192, z193, z194, z195, z196, z197, z198, z199, z200, z201, z202, z203, z204, z205, z206, z207, z208, z209, z210, z211, z212, z213, z214, z215, z216, z217, z218, z219, z220, z221, z222, z223], []⟩ wc := by
  intro Q' K1 K2 hK1 hK2
  have hu24 := Try.underlying24
  simp only [Try.f5, codeAt, Option.getD_some] at hK1 hK2
  cases kq with
  | zero => exact absurd HA.out (by simp [customslaw38_ChannelSteps.j5])
  | succ kj90 =>
    have H := HA.out
    clear HA
    simp only [customslaw38_ChannelSteps.j5] at H
    have c119 : ¬ (x128_90 = true) := by
      intro c119
      rw [if_pos c119] at H
      exact absurd (Option.some.inj H) (by simp)
    replace c119 := Bool.eq_false_iff.mpr c119
    subst c119
    have H1 : ((channel_Lose.f x320000_5 x320001_5 x320002_5 x2_5).bind fun bt375 => ((customsref33_Lose.f x320000_5 x320001_5 x320002_5 x2_5).bind fun bt383 => (if bt375.2.2.2 = bt383.2.2.2 then ((customsref33_SameLine.f kj90 bt375.1 bt375.2.1 bt375.2.2.1 bt383.1 bt383.2.1 bt383.2.2.1).bind fun t391 => (customslaw38_ChannelSteps.j6 kj90 x1_5 x2_5 (!t391) x320000_5 x320001_5 x320002_5)) else (customslaw38_ChannelSteps.j6 kj90 x1_5 x2_5 true x320000_5 x320001_5 x320002_5)))) = some true := by rw [if_neg (show ¬ (false = true) by decide)] at H; exact H
    clear H
    have H := H1
    clear H1
    replace H := Option.bind_eq_some_iff.mp H
    obtain ⟨⟨t375, t376, t379, t382⟩, A1200, H⟩ := H
    replace H : ((customsref33_Lose.f x320000_5 x320001_5 x320002_5 x2_5).bind fun bt383 => (if t382 = bt383.2.2.2 then ((customsref33_SameLine.f kj90 t375 t376 t379 bt383.1 bt383.2.1 bt383.2.2.1).bind fun t391 => (customslaw38_ChannelSteps.j6 kj90 x1_5 x2_5 (!t391) x320000_5 x320001_5 x320002_5)) else (customslaw38_ChannelSteps.j6 kj90 x1_5 x2_5 true x320000_5 x320001_5 x320002_5))) = some true := H
    have A120 := Aside0.mk A1200
    clear A1200
    replace H := Option.bind_eq_some_iff.mp H
    obtain ⟨⟨t383, t384, t387, t390⟩, A1210, H⟩ := H
    replace H : (if t382 = t390 then ((customsref33_SameLine.f kj90 t375 t376 t379 t383 t384 t387).bind fun t391 => (customslaw38_ChannelSteps.j6 kj90 x1_5 x2_5 (!t391) x320000_5 x320001_5 x320002_5)) else (customslaw38_ChannelSteps.j6 kj90 x1_5 x2_5 true x320000_5 x320001_5 x320002_5)) = some true := H
    have A121 := Aside0.mk A1210
    clear A1210
    have HC122 := Aside0.mk H
    clear H
    have hnb123 := NB319_318.out
    have hnc123 := NB318_319.out
    have hnb124 := NB319_345.out
    have hnc124 := NB345_319.out
    have hnb125 := NB319_354.out
    have hnc125 := NB354_319.out
    have hcz126_0 : wc.cell? ⟨gb319, 0, none⟩ = some (.int .i64 x320000_5) := (blk_cell BK319.out 0).trans rfl
    have hcz126_1 : wc.cell? ⟨gb319, 1, none⟩ = some (.slice Ao59 x320001_5.length co59) := (blk_cell BK319.out 1).trans rfl
    have hcz126_2 : wc.cell? ⟨gb319, 2, none⟩ = some (.slice Ao60 x320002_5.length co60) := (blk_cell BK319.out 2).trans rfl
    have hfz126_0 := blk_frozen BK319.out 0
    have hfz126_1 := blk_frozen BK319.out 1
    have hfz126_2 := blk_frozen BK319.out 2
    go_upto_region 23 with (first | ((with_reducible refine gate_callee (f := 17) rfl ?_); refine goesL_ (some 132) rfl rfl Try.func17 (by kernel_rfl) rfl #[.agg #[.int .i64 x320000_5, .slice Ao59 x320001_5.length co59, .slice Ao60 x320002_5.length co60], .int .i64 x2_5] rfl (by (try simp only [List.map_toArray, List.map_cons, List.map_nil]); first | done | rfl | (simp only [List.length_drop, List.length_take]; rfl)) ?_; (with_reducible refine (channel_Lose.calls x320000_5 _ _ x320001_5 _ _ x320002_5 x2_5 t375 t376 t379 t382 _ ?side1 ?side2 ?side3 ?side4 A120.out).mono ?_); (case side1 => exact pC (Kd.V_reads' HO_320001.out).2.2); (case side2 => exact (Kd.V_reads' HO_320001.out).2.1); (case side3 => exact pC (Kd.V_reads' HO_320002.out).2.2); (case side4 => exact (Kd.V_reads' HO_320002.out).2.1); rintro e w127 ⟨v377, v380, rfl, ho0, ho1, hb⟩; refine ⟨_, rfl, ?_⟩; have n0_ := Aside0.mk (Kd.V_mono (Kd.V_told (Kd.V_told (Kd.V_old (by exact pV HO_319001.out) hb) (Kd.R_base ho0)) (Kd.R_base ho1)) (fun _ h_ => h_.1)); have n1_ := Aside0.mk (Kd.V_mono (Kd.V_told (Kd.V_told (Kd.V_old (by exact pV HO_319002.out) hb) (Kd.R_base ho0)) (Kd.R_base ho1)) (fun _ h_ => h_.1)); have n2_ := Aside0.mk (Kd.V_mono (Kd.V_told (Kd.V_told (Kd.V_old (by exact pV HO_320001.out) hb) (Kd.R_base ho0)) (Kd.R_base ho1)) (fun _ h_ => h_.1)); have n3_ := Aside0.mk (Kd.V_mono (Kd.V_told (Kd.V_told (Kd.V_old (by exact pV HO_320002.out) hb) (Kd.R_base ho0)) (Kd.R_base ho1)) (fun _ h_ => h_.1)); have n4_ := Aside0.mk (Kd.R_lower (Kd.R_newM (M := fun k_ => (w.heap.size ≤ k_)) ho0 (below_size (by exact pB HB.out)) (fun k_ h_ => h_)) (below_size (by exact pB HB.out))); have n5_ := Aside0.mk (Kd.R_lower (Kd.R_newM (M := fun k_ => (w.heap.size ≤ k_)) ho1 (below_size (by exact pB HB.out)) (fun k_ h_ => h_)) (below_size (by exact pB HB.out))); have n6_ := Aside0.mk (blk_below (g := gb318) (o := .cells #[.int .i64 a0_0, .slice A0_1 l0_1.length c0_1, .slice A0_2 l0_2.length c0_2] 24 (0, 0)) (by exact pK BK318.out) hb); have n7_ := Aside0.mk (blk_below (g := gb319) (o := .cells #[.int .i64 x320000_5, .slice Ao59 x320001_5.length co59, .slice Ao60 x320002_5.length co60] 24 (0, 0)) (by exact pK BK319.out) hb); have n8_ := Aside0.mk (blk_below (g := gb345) (o := .cells #[.int .i64 t356, .slice Ao100 t357.length co100, .slice Ao101 t360.length co101] 24 (0, 0)) (by exact pK BK345.out) hb); have n9_ := Aside0.mk (blk_below (g := gb354) (o := .cells #[.int .i64 t365, .slice Ao106 t366.length co106, .slice Ao107 t369.length co107] 24 (0, 0)) (by exact pK BK354.out) hb); have n10_ := Aside0.mk (below_step (by exact pB HB.out) hb); clear HO_319001; clear HO_319002; clear HO_320001; clear HO_320002; clear BK318; clear BK319; clear BK345; clear BK354; clear HB; have HO_319001 := n0_; have HO_319002 := n1_; have HO_320001 := n2_; have HO_320002 := n3_; have HO378 := n4_; have HO381 := n5_; have BK318 := n6_; have BK319 := n7_; have BK345 := n8_; have BK354 := n9_; have HB := n10_; clear n0_ n1_ n2_ n3_ n4_ n5_ n6_ n7_ n8_ n9_ n10_; (try clear hb); (try clear hb2); (try clear hk); (try clear hi); (try clear ho0); (try clear ho1); have hnb128 := NB345_318.out; have hnc128 := NB318_345.out; have hnb129 := NB345_354.out; have hnc129 := NB354_345.out; have hcz130_0 : w127.cell? ⟨gb345, 0, none⟩ = some (.int .i64 t356) := (blk_cell BK345.out 0).trans rfl; have hcz130_1 : w127.cell? ⟨gb345, 1, none⟩ = some (.slice Ao100 t357.length co100) := (blk_cell BK345.out 1).trans rfl; have hcz130_2 : w127.cell? ⟨gb345, 2, none⟩ = some (.slice Ao101 t360.length co101) := (blk_cell BK345.out 2).trans rfl; have hfz130_0 := blk_frozen BK345.out 0; have hfz130_1 := blk_frozen BK345.out 1; have hfz130_2 := blk_frozen BK345.out 2; obtain ⟨Ao131, co131, eo131⟩ := Kd.R_slice HO378.out; subst eo131; obtain ⟨Ao132, co132, eo132⟩ := Kd.R_slice HO381.out; subst eo132) | ((with_reducible refine gate_store (t := 24) (p := 14) rfl ?_); refine store_event (t := 24) (p := 14) (v := ?vo_w133) (w1 := (((w127.setCell ⟨gb345, 0, none⟩ (.int .i64 t375)).setCell ⟨gb345, 1, none⟩ (.slice Ao131 t376.length co131)).setCell ⟨gb345, 2, none⟩ (.slice Ao132 t379.length co132))) ?hg ?ho ?hn ?hr ?_; (case ho => rfl); (case hg => rfl); (case hn => rfl); (case hr => first | (go_simp; done) | (go_simp; rfl)); intro w133 hw; have n0_ : Aside0 (Kd.V (Kd.int .i64) 3 w133 w.heap.size (fun k_ => ((P0_1_ k_ ∨ P0_2_ k_) ∨ w.heap.size ≤ k_) ∧ some k_ ≠ (.slice Ao131 t376.length co131 : Value).ownBlock ∧ some k_ ≠ (.slice Ao132 t379.length co132 : Value).ownBlock ∧ k_ ≠ gb318 ∧ k_ ≠ gb319 ∧ k_ ≠ gb345 ∧ k_ ≠ gb354) (.slice A0_1 l0_1.length c0_1) l0_1) := ⟨(by rw [hw]; exact (by (with_reducible repeat (first | apply Kd.V_alloc | apply Kd.V_drewN | apply Kd.V_drew)); exact Kd.V_mono (Kd.V_far (p := ⟨gb345, 2, none⟩) (Kd.V_far (p := ⟨gb345, 1, none⟩) (Kd.V_far (p := ⟨gb345, 0, none⟩) (Kd.V_mono HO_319001.out (fun k_ hk => (⟨hk, hk.1.1.2.2.2.2.2.2.2.1⟩ : _ ∧ k_ ≠ gb345))) (fun _ hk => hk.2) (.int .i64 t375)) (fun _ hk => hk.2) (.slice Ao131 t376.length co131)) (fun _ hk => hk.2) (.slice Ao132 t379.length co132)) (fun _ hk => ⟨hk.1.1.1.1, ⟨hk.1.1.2, ⟨hk.1.2, ⟨hk.1.1.1.2.2.2.2.2.1, ⟨hk.1.1.1.2.2.2.2.2.2.1, ⟨hk.1.1.1.2.2.2.2.2.2.2.1, hk.1.1.1.2.2.2.2.2.2.2.2⟩⟩⟩⟩⟩⟩)))⟩; have n1_ : Aside0 (Kd.V (Kd.int .i64) 3 w133 w.heap.size (fun k_ => ((P0_1_ k_ ∨ P0_2_ k_) ∨ w.heap.size ≤ k_) ∧ some k_ ≠ (.slice Ao131 t376.length co131 : Value).ownBlock ∧ some k_ ≠ (.slice Ao132 t379.length co132 : Value).ownBlock ∧ k_ ≠ gb318 ∧ k_ ≠ gb319 ∧ k_ ≠ gb345 ∧ k_ ≠ gb354) (.slice A0_2 l0_2.length c0_2) l0_2) := ⟨(by rw [hw]; exact (by (with_reducible repeat (first | apply Kd.V_alloc | apply Kd.V_drewN | apply Kd.V_drew)); exact Kd.V_mono (Kd.V_far (p := ⟨gb345, 2, none⟩) (Kd.V_far (p := ⟨gb345, 1, none⟩) (Kd.V_far (p := ⟨gb345, 0, none⟩) (Kd.V_mono HO_319002.out (fun k_ hk => (⟨hk, hk.1.1.2.2.2.2.2.2.2.1⟩ : _ ∧ k_ ≠ gb345))) (fun _ hk => hk.2) (.int .i64 t375)) (fun _ hk => hk.2) (.slice Ao131 t376.length co131)) (fun _ hk => hk.2) (.slice Ao132 t379.length co132)) (fun _ hk => ⟨hk.1.1.1.1, ⟨hk.1.1.2, ⟨hk.1.2, ⟨hk.1.1.1.2.2.2.2.2.1, ⟨hk.1.1.1.2.2.2.2.2.2.1, ⟨hk.1.1.1.2.2.2.2.2.2.2.1, hk.1.1.1.2.2.2.2.2.2.2.2⟩⟩⟩⟩⟩⟩)))⟩; have n2_ : Aside0 (Kd.V (Kd.int .i64) 3 w133 w.heap.size (fun k_ => ((P0_1_ k_ ∨ P0_2_ k_) ∨ w.heap.size ≤ k_) ∧ some k_ ≠ (.slice Ao131 t376.length co131 : Value).ownBlock ∧ some k_ ≠ (.slice Ao132 t379.length co132 : Value).ownBlock ∧ k_ ≠ gb318 ∧ k_ ≠ gb319 ∧ k_ ≠ gb345 ∧ k_ ≠ gb354) (.slice Ao59 x320001_5.length co59) x320001_5) := ⟨(by rw [hw]; exact (by (with_reducible repeat (first | apply Kd.V_alloc | apply Kd.V_drewN | apply Kd.V_drew)); exact Kd.V_mono (Kd.V_far (p := ⟨gb345, 2, none⟩) (Kd.V_far (p := ⟨gb345, 1, none⟩) (Kd.V_far (p := ⟨gb345, 0, none⟩) (Kd.V_mono HO_320001.out (fun k_ hk => (⟨hk, hk.1.1.2.2.2.2.2.2.2.1⟩ : _ ∧ k_ ≠ gb345))) (fun _ hk => hk.2) (.int .i64 t375)) (fun _ hk => hk.2) (.slice Ao131 t376.length co131)) (fun _ hk => hk.2) (.slice Ao132 t379.length co132)) (fun _ hk => ⟨hk.1.1.1.1, ⟨hk.1.1.2, ⟨hk.1.2, ⟨hk.1.1.1.2.2.2.2.2.1, ⟨hk.1.1.1.2.2.2.2.2.2.1, ⟨hk.1.1.1.2.2.2.2.2.2.2.1, hk.1.1.1.2.2.2.2.2.2.2.2⟩⟩⟩⟩⟩⟩)))⟩; have n3_ : Aside0 (Kd.V (Kd.int .i64) 3 w133 w.heap.size (fun k_ => ((P0_1_ k_ ∨ P0_2_ k_) ∨ w.heap.size ≤ k_) ∧ some k_ ≠ (.slice Ao131 t376.length co131 : Value).ownBlock ∧ some k_ ≠ (.slice Ao132 t379.length co132 : Value).ownBlock ∧ k_ ≠ gb318 ∧ k_ ≠ gb319 ∧ k_ ≠ gb345 ∧ k_ ≠ gb354) (.slice Ao60 x320002_5.length co60) x320002_5) := ⟨(by rw [hw]; exact (by (with_reducible repeat (first | apply Kd.V_alloc | apply Kd.V_drewN | apply Kd.V_drew)); exact Kd.V_mono (Kd.V_far (p := ⟨gb345, 2, none⟩) (Kd.V_far (p := ⟨gb345, 1, none⟩) (Kd.V_far (p := ⟨gb345, 0, none⟩) (Kd.V_mono HO_320002.out (fun k_ hk => (⟨hk, hk.1.1.2.2.2.2.2.2.2.1⟩ : _ ∧ k_ ≠ gb345))) (fun _ hk => hk.2) (.int .i64 t375)) (fun _ hk => hk.2) (.slice Ao131 t376.length co131)) (fun _ hk => hk.2) (.slice Ao132 t379.length co132)) (fun _ hk => ⟨hk.1.1.1.1, ⟨hk.1.1.2, ⟨hk.1.2, ⟨hk.1.1.1.2.2.2.2.2.1, ⟨hk.1.1.1.2.2.2.2.2.2.1, ⟨hk.1.1.1.2.2.2.2.2.2.2.1, hk.1.1.1.2.2.2.2.2.2.2.2⟩⟩⟩⟩⟩⟩)))⟩; have n4_ : Aside0 (Kd.R (Kd.int .i64) 3 w133 w.heap.size (fun k_ => (w.heap.size ≤ k_) ∧ some k_ ≠ (.slice Ao132 t379.length co132 : Value).ownBlock) (.slice Ao131 t376.length co131) t376) := ⟨(by rw [hw]; exact (by (with_reducible repeat (first | apply Kd.R_alloc | apply Kd.R_drewN | apply Kd.R_drew)); exact Kd.R_mono (Kd.R_far (p := ⟨gb345, 2, none⟩) (Kd.R_far (p := ⟨gb345, 1, none⟩) (Kd.R_far (p := ⟨gb345, 0, none⟩) (Kd.R_types HO378.out BK345.out (by decide)) (fun _ hk => hk.2) (.int .i64 t375)) (fun _ hk => hk.2) (.slice Ao131 t376.length co131)) (fun _ hk => hk.2) (.slice Ao132 t379.length co132)) (fun _ hk => ⟨hk.1.1, hk.1.2⟩)))⟩; have n5_ : Aside0 (Kd.R (Kd.int .i64) 3 w133 w.heap.size (fun k_ => (w.heap.size ≤ k_) ∧ some k_ ≠ (.slice Ao131 t376.length co131 : Value).ownBlock) (.slice Ao132 t379.length co132) t379) := ⟨(by rw [hw]; exact (by (with_reducible repeat (first | apply Kd.R_alloc | apply Kd.R_drewN | apply Kd.R_drew)); exact Kd.R_mono (Kd.R_far (p := ⟨gb345, 2, none⟩) (Kd.R_far (p := ⟨gb345, 1, none⟩) (Kd.R_far (p := ⟨gb345, 0, none⟩) (Kd.R_types HO381.out BK345.out (by decide)) (fun _ hk => hk.2) (.int .i64 t375)) (fun _ hk => hk.2) (.slice Ao131 t376.length co131)) (fun _ hk => hk.2) (.slice Ao132 t379.length co132)) (fun _ hk => ⟨hk.1.1, hk.1.2⟩)))⟩; have n6_ : Aside0 (w133.heap[gb318]? = some (.cells #[.int .i64 a0_0, .slice A0_1 l0_1.length c0_1, .slice A0_2 l0_2.length c0_2] 24 (0, 0))) := ⟨(by rw [hw]; exact (by (with_reducible repeat (first | refine blk_drewN ?_ _ | refine blk_drew ?_ | refine blk_alloc ?_ _)); refine blk_far ?_ NB318_345.out _; (with_reducible repeat (first | refine blk_drewN ?_ _ | refine blk_drew ?_ | refine blk_alloc ?_ _)); refine blk_far ?_ NB318_345.out _; (with_reducible repeat (first | refine blk_drewN ?_ _ | refine blk_drew ?_ | refine blk_alloc ?_ _)); refine blk_far ?_ NB318_345.out _; (with_reducible repeat (first | refine blk_drewN ?_ _ | refine blk_drew ?_ | refine blk_alloc ?_ _)); exact BK318.out))⟩; have n7_ : Aside0 (w133.heap[gb319]? = some (.cells #[.int .i64 x320000_5, .slice Ao59 x320001_5.length co59, .slice Ao60 x320002_5.length co60] 24 (0, 0))) := ⟨(by rw [hw]; exact (by (with_reducible repeat (first | refine blk_drewN ?_ _ | refine blk_drew ?_ | refine blk_alloc ?_ _)); refine blk_far ?_ NB319_345.out _; (with_reducible repeat (first | refine blk_drewN ?_ _ | refine blk_drew ?_ | refine blk_alloc ?_ _)); refine blk_far ?_ NB319_345.out _; (with_reducible repeat (first | refine blk_drewN ?_ _ | refine blk_drew ?_ | refine blk_alloc ?_ _)); refine blk_far ?_ NB319_345.out _; (with_reducible repeat (first | refine blk_drewN ?_ _ | refine blk_drew ?_ | refine blk_alloc ?_ _)); exact BK319.out))⟩; have n8_ : Aside0 (w133.heap[gb345]? = some (.cells #[.int .i64 t375, .slice Ao131 t376.length co131, .slice Ao132 t379.length co132] 24 (0, 0))) := ⟨(by rw [hw]; exact (by (with_reducible repeat (first | refine blk_drewN ?_ _ | refine blk_drew ?_ | refine blk_alloc ?_ _)); refine blk_put (cs := #[.int .i64 t375, .slice Ao131 t376.length co131, .slice Ao101 t360.length co101]) ?_ 2 _ rfl; (with_reducible repeat (first | refine blk_drewN ?_ _ | refine blk_drew ?_ | refine blk_alloc ?_ _)); refine blk_put (cs := #[.int .i64 t375, .slice Ao100 t357.length co100, .slice Ao101 t360.length co101]) ?_ 1 _ rfl; (with_reducible repeat (first | refine blk_drewN ?_ _ | refine blk_drew ?_ | refine blk_alloc ?_ _)); refine blk_put (cs := #[.int .i64 t356, .slice Ao100 t357.length co100, .slice Ao101 t360.length co101]) ?_ 0 _ rfl; (with_reducible repeat (first | refine blk_drewN ?_ _ | refine blk_drew ?_ | refine blk_alloc ?_ _)); exact BK345.out))⟩; have n9_ : Aside0 (w133.heap[gb354]? = some (.cells #[.int .i64 t365, .slice Ao106 t366.length co106, .slice Ao107 t369.length co107] 24 (0, 0))) := ⟨(by rw [hw]; exact (by (with_reducible repeat (first | refine blk_drewN ?_ _ | refine blk_drew ?_ | refine blk_alloc ?_ _)); refine blk_far ?_ NB354_345.out _; (with_reducible repeat (first | refine blk_drewN ?_ _ | refine blk_drew ?_ | refine blk_alloc ?_ _)); refine blk_far ?_ NB354_345.out _; (with_reducible repeat (first | refine blk_drewN ?_ _ | refine blk_drew ?_ | refine blk_alloc ?_ _)); refine blk_far ?_ NB354_345.out _; (with_reducible repeat (first | refine blk_drewN ?_ _ | refine blk_drew ?_ | refine blk_alloc ?_ _)); exact BK354.out))⟩; have n10_ : Aside0 (Below w.heap.size w w133) := ⟨(by rw [hw]; exact (by repeat (first | (with_reducible first | exact HB.out | apply below_alloc | apply pw_below_drewN | apply below_drew1 | refine below_set ?_ GE318.out | refine below_set ?_ GE319.out | refine below_set ?_ GE345.out | refine below_set ?_ GE354.out) | exact HB.out)))⟩; clear hw; clear HO_319001; clear HO_319002; clear HO_320001; clear HO_320002; clear HO378; clear HO381; clear BK318; clear BK319; clear BK345; clear BK354; clear HB; have HO_319001 := n0_; have HO_319002 := n1_; have HO_320001 := n2_; have HO_320002 := n3_; have HO378 := n4_; have HO381 := n5_; have BK318 := n6_; have BK319 := n7_; have BK345 := n8_; have BK354 := n9_; have HB := n10_; clear n0_ n1_ n2_ n3_ n4_ n5_ n6_ n7_ n8_ n9_ n10_; have hcz134_0 : w133.cell? ⟨gb319, 0, none⟩ = some (.int .i64 x320000_5) := (blk_cell BK319.out 0).trans rfl; have hcz134_1 : w133.cell? ⟨gb319, 1, none⟩ = some (.slice Ao59 x320001_5.length co59) := (blk_cell BK319.out 1).trans rfl; have hcz134_2 : w133.cell? ⟨gb319, 2, none⟩ = some (.slice Ao60 x320002_5.length co60) := (blk_cell BK319.out 2).trans rfl; have hfz134_0 := blk_frozen BK319.out 0; have hfz134_1 := blk_frozen BK319.out 1; have hfz134_2 := blk_frozen BK319.out 2) | ((with_reducible refine gate_callee (f := 18) rfl ?_); refine goesL_ (some 138) rfl rfl Try.func18 (by kernel_rfl) rfl #[.agg #[.int .i64 x320000_5, .slice Ao59 x320001_5.length co59, .slice Ao60 x320002_5.length co60], .int .i64 x2_5] rfl (by (try simp only [List.map_toArray, List.map_cons, List.map_nil]); first | done | rfl | (simp only [List.length_drop, List.length_take]; rfl)) ?_; (with_reducible refine (customsref33_Lose.calls x320000_5 _ _ x320001_5 (fun k_ => (((P0_1_ k_ ∨ P0_2_ k_) ∨ w.heap.size ≤ k_) ∧ (some k_ ≠ (.slice Ao131 t376.length co131 : Value).ownBlock ∧ (some k_ ≠ (.slice Ao132 t379.length co132 : Value).ownBlock ∧ (k_ ≠ gb318 ∧ (k_ ≠ gb319 ∧ (k_ ≠ gb345 ∧ k_ ≠ gb354))))))) _ _ x320002_5 x2_5 t383 t384 t387 t390 _ ?side1 ?side2 ?side3 A121.out).mono ?_); (case side1 => exact pC (Kd.V_reads' HO_320001.out).2.2); (case side2 => exact (Kd.V_reads' HO_320001.out).2.1); (case side3 => exact HO_320002.out); rintro e w135 ⟨v385, v388, rfl, ho0, ho1, hb⟩; refine ⟨_, rfl, ?_⟩; have n0_ := Aside0.mk (Kd.V_elder' (by exact pV HO_319001.out) (Kd.R_base ho0) hb); have n1_ := Aside0.mk (Kd.V_elder' (by exact pV HO_319002.out) (Kd.R_base ho0) hb); have n2_ := Aside0.mk (Kd.V_elder' (by exact pV HO_320001.out) (Kd.R_base ho0) hb); have n3_ := Aside0.mk (Kd.V_elder' (by exact pV HO_320002.out) (Kd.R_base ho0) hb); have n4_ := Aside0.mk (Kd.R_elder' (by exact pR HO378.out) (Kd.R_base ho0) hb); have n5_ := Aside0.mk (Kd.R_elder' (by exact pR HO381.out) (Kd.R_base ho0) hb); have n6_ := Aside0.mk (Kd.R_lower (Kd.R_new' (Kd.R_new' (Kd.R_newM (M := fun k_ => (w.heap.size ≤ k_)) (Kd.R_mono (ok' := fun k_ => True) ho0 (fun _ hk_ => trivial)) (below_size (by exact pB HB.out)) (fun k_ h_ => h_)) (Kd.R_lt (by exact pR HO378.out))) (Kd.R_lt (by exact pR HO381.out))) (below_size (by exact pB HB.out))); have n7_ := Aside0.mk (Kd.V_lower (Kd.V_mono (ok' := fun k_ => ((P0_1_ k_ ∨ P0_2_ k_) ∨ w.heap.size ≤ k_) ∧ some k_ ≠ (v385 : Value).ownBlock ∧ some k_ ≠ (.slice Ao131 t376.length co131 : Value).ownBlock ∧ some k_ ≠ (.slice Ao132 t379.length co132 : Value).ownBlock ∧ k_ ≠ gb318 ∧ k_ ≠ gb319 ∧ k_ ≠ gb345 ∧ k_ ≠ gb354) ho1 (fun k_ hk_ => ⟨Or.elim hk_.1 (fun hs_ => hs_.1) (fun hn_ => (.inr (Nat.le_trans (below_size (by exact pB HB.out)) hn_))), hk_.2, Or.elim hk_.1 (fun hs_ => hs_.2.1) (fun hn_ => (Kd.fresh' (Kd.R_lt (by exact pR HO378.out)) k_ hn_)), Or.elim hk_.1 (fun hs_ => hs_.2.2.1) (fun hn_ => (Kd.fresh' (Kd.R_lt (by exact pR HO381.out)) k_ hn_)), Or.elim hk_.1 (fun hs_ => hs_.2.2.2.1) (fun hn_ => (Kd.freshB (g := gb318) (o := .cells #[.int .i64 a0_0, .slice A0_1 l0_1.length c0_1, .slice A0_2 l0_2.length c0_2] 24 (0, 0)) (by exact pK BK318.out) k_ hn_)), Or.elim hk_.1 (fun hs_ => hs_.2.2.2.2.1) (fun hn_ => (Kd.freshB (g := gb319) (o := .cells #[.int .i64 x320000_5, .slice Ao59 x320001_5.length co59, .slice Ao60 x320002_5.length co60] 24 (0, 0)) (by exact pK BK319.out) k_ hn_)), Or.elim hk_.1 (fun hs_ => hs_.2.2.2.2.2.1) (fun hn_ => (Kd.freshB (g := gb345) (o := .cells #[.int .i64 t375, .slice Ao131 t376.length co131, .slice Ao132 t379.length co132] 24 (0, 0)) (by exact pK BK345.out) k_ hn_)), Or.elim hk_.1 (fun hs_ => hs_.2.2.2.2.2.2) (fun hn_ => (Kd.freshB (g := gb354) (o := .cells #[.int .i64 t365, .slice Ao106 t366.length co106, .slice Ao107 t369.length co107] 24 (0, 0)) (by exact pK BK354.out) k_ hn_))⟩)) (below_size (by exact pB HB.out))); have n8_ := Aside0.mk (blk_below (g := gb318) (o := .cells #[.int .i64 a0_0, .slice A0_1 l0_1.length c0_1, .slice A0_2 l0_2.length c0_2] 24 (0, 0)) (by exact pK BK318.out) hb); have n9_ := Aside0.mk (blk_below (g := gb319) (o := .cells #[.int .i64 x320000_5, .slice Ao59 x320001_5.length co59, .slice Ao60 x320002_5.length co60] 24 (0, 0)) (by exact pK BK319.out) hb); have n10_ := Aside0.mk (blk_below (g := gb345) (o := .cells #[.int .i64 t375, .slice Ao131 t376.length co131, .slice Ao132 t379.length co132] 24 (0, 0)) (by exact pK BK345.out) hb); have n11_ := Aside0.mk (blk_below (g := gb354) (o := .cells #[.int .i64 t365, .slice Ao106 t366.length co106, .slice Ao107 t369.length co107] 24 (0, 0)) (by exact pK BK354.out) hb); have n12_ := Aside0.mk (below_step (by exact pB HB.out) hb); clear HO_319001; clear HO_319002; clear HO_320001; clear HO_320002; clear HO378; clear HO381; clear BK318; clear BK319; clear BK345; clear BK354; clear HB; have HO_319001 := n0_; have HO_319002 := n1_; have HO_320001 := n2_; have HO_320002 := n3_; have HO378 := n4_; have HO381 := n5_; have HO386 := n6_; have HO389 := n7_; have BK318 := n8_; have BK319 := n9_; have BK345 := n10_; have BK354 := n11_; have HB := n12_; clear n0_ n1_ n2_ n3_ n4_ n5_ n6_ n7_ n8_ n9_ n10_ n11_ n12_; (try clear hb); (try clear hb2); (try clear hk); (try clear hi); (try clear ho0); (try clear ho1); have hnb136 := NB354_318.out; have hnc136 := NB318_354.out; have hcz137_0 : w135.cell? ⟨gb354, 0, none⟩ = some (.int .i64 t365) := (blk_cell BK354.out 0).trans rfl; have hcz137_1 : w135.cell? ⟨gb354, 1, none⟩ = some (.slice Ao106 t366.length co106) := (blk_cell BK354.out 1).trans rfl; have hcz137_2 : w135.cell? ⟨gb354, 2, none⟩ = some (.slice Ao107 t369.length co107) := (blk_cell BK354.out 2).trans rfl; have hfz137_0 := blk_frozen BK354.out 0; have hfz137_1 := blk_frozen BK354.out 1; have hfz137_2 := blk_frozen BK354.out 2; obtain ⟨Ao138, co138, eo138⟩ := Kd.R_slice HO386.out; subst eo138; obtain ⟨Ao139, co139, eo139⟩ := Kd.V_slice HO389.out; subst eo139))
    (try simp only [Act.put, List.setIfInBounds_toArray, List.set_cons_zero, List.set_cons_succ])
    go_cut [149] (fun v149 wc => ∃ (kq : Nat) (x149_121 : Bool), v149 = .bool x149_121 ∧ Aside0 (customslaw38_ChannelSteps.j6 kq x1_5 x2_5 x149_121 x320000_5 x320001_5 x320002_5 = some true) ∧ Aside0 (kq ≤ kj90) ∧ Aside0 (Kd.V (Kd.int .i64) 3 wc w.heap.size (fun k_ => ((P0_1_ k_ ∨ P0_2_ k_) ∨ w.heap.size ≤ k_) ∧ some k_ ≠ ((.slice Ao131 t376.length co131) : Value).ownBlock ∧ some k_ ≠ ((.slice Ao132 t379.length co132) : Value).ownBlock ∧ some k_ ≠ ((.slice Ao138 t384.length co138) : Value).ownBlock ∧ k_ ≠ gb318 ∧ k_ ≠ gb319 ∧ k_ ≠ gb345 ∧ k_ ≠ gb354) (.slice A0_1 l0_1.length c0_1) l0_1) ∧ Aside0 (Kd.V (Kd.int .i64) 3 wc w.heap.size (fun k_ => ((P0_1_ k_ ∨ P0_2_ k_) ∨ w.heap.size ≤ k_) ∧ some k_ ≠ ((.slice Ao131 t376.length co131) : Value).ownBlock ∧ some k_ ≠ ((.slice Ao132 t379.length co132) : Value).ownBlock ∧ some k_ ≠ ((.slice Ao138 t384.length co138) : Value).ownBlock ∧ k_ ≠ gb318 ∧ k_ ≠ gb319 ∧ k_ ≠ gb345 ∧ k_ ≠ gb354) (.slice A0_2 l0_2.length c0_2) l0_2) ∧ Aside0 (Kd.V (Kd.int .i64) 3 wc w.heap.size (fun k_ => ((P0_1_ k_ ∨ P0_2_ k_) ∨ w.heap.size ≤ k_) ∧ some k_ ≠ ((.slice Ao131 t376.length co131) : Value).ownBlock ∧ some k_ ≠ ((.slice Ao132 t379.length co132) : Value).ownBlock ∧ some k_ ≠ ((.slice Ao138 t384.length co138) : Value).ownBlock ∧ k_ ≠ gb318 ∧ k_ ≠ gb319 ∧ k_ ≠ gb345 ∧ k_ ≠ gb354) (.slice Ao59 x320001_5.length co59) x320001_5) ∧ Aside0 (Kd.V (Kd.int .i64) 3 wc w.heap.size (fun k_ => ((P0_1_ k_ ∨ P0_2_ k_) ∨ w.heap.size ≤ k_) ∧ some k_ ≠ ((.slice Ao131 t376.length co131) : Value).ownBlock ∧ some k_ ≠ ((.slice Ao132 t379.length co132) : Value).ownBlock ∧ some k_ ≠ ((.slice Ao138 t384.length co138) : Value).ownBlock ∧ k_ ≠ gb318 ∧ k_ ≠ gb319 ∧ k_ ≠ gb345 ∧ k_ ≠ gb354) (.slice Ao60 x320002_5.length co60) x320002_5) ∧ Aside0 (Kd.R (Kd.int .i64) 3 wc w.heap.size (fun k_ => (w.heap.size ≤ k_) ∧ some k_ ≠ ((.slice Ao132 t379.length co132) : Value).ownBlock ∧ some k_ ≠ ((.slice Ao138 t384.length co138) : Value).ownBlock) (.slice Ao131 t376.length co131) t376) ∧ Aside0 (Kd.R (Kd.int .i64) 3 wc w.heap.size (fun k_ => (w.heap.size ≤ k_) ∧ some k_ ≠ ((.slice Ao131 t376.length co131) : Value).ownBlock ∧ some k_ ≠ ((.slice Ao138 t384.length co138) : Value).ownBlock) (.slice Ao132 t379.length co132) t379) ∧ Aside0 (Kd.R (Kd.int .i64) 3 wc w.heap.size (fun k_ => (w.heap.size ≤ k_) ∧ some k_ ≠ ((.slice Ao131 t376.length co131) : Value).ownBlock ∧ some k_ ≠ ((.slice Ao132 t379.length co132) : Value).ownBlock) (.slice Ao138 t384.length co138) t384) ∧ Aside0 (Kd.V (Kd.int .i64) 3 wc w.heap.size (fun k_ => ((P0_1_ k_ ∨ P0_2_ k_) ∨ w.heap.size ≤ k_) ∧ some k_ ≠ ((.slice Ao131 t376.length co131) : Value).ownBlock ∧ some k_ ≠ ((.slice Ao132 t379.length co132) : Value).ownBlock ∧ some k_ ≠ ((.slice Ao138 t384.length co138) : Value).ownBlock ∧ k_ ≠ gb318 ∧ k_ ≠ gb319 ∧ k_ ≠ gb345 ∧ k_ ≠ gb354) (.slice Ao139 t387.length co139) t387) ∧ Aside0 (wc.heap[gb318]? = some (.cells #[.int .i64 a0_0, (.slice A0_1 l0_1.length c0_1), (.slice A0_2 l0_2.length c0_2)] 24 (0, 0))) ∧ Aside0 (wc.heap[gb319]? = some (.cells #[.int .i64 x320000_5, (.slice Ao59 x320001_5.length co59), (.slice Ao60 x320002_5.length co60)] 24 (0, 0))) ∧ Aside0 (wc.heap[gb345]? = some (.cells #[.int .i64 t375, (.slice Ao131 t376.length co131), (.slice Ao132 t379.length co132)] 24 (0, 0))) ∧ Aside0 (wc.heap[gb354]? = some (.cells #[.int .i64 t383, (.slice Ao138 t384.length co138), (.slice Ao139 t387.length co139)] 24 (0, 0))) ∧ Aside0 (Below w.heap.size w wc))
    case first => as_aux_lemma =>
      have H := HC122.out
      clear HC122
      by_cases c140 : t382 = t390
      · rw [if_pos c140] at H
        have c140b0 : (t382 == t390) = true := beq_iff_eq.mpr c140
        have c140b1 : (t382 != t390) = false := bne_eq_false_iff_eq.mpr c140
        clear c140
        (first | rw [c140b0] | (simp only [i64_w, i32_w]; rw [c140b0]) | skip)
        replace H := Option.bind_eq_some_iff.mp H
        obtain ⟨t391, A1410, H⟩ := H
        replace H : (customslaw38_ChannelSteps.j6 kj90 x1_5 x2_5 (!t391) x320000_5 x320001_5 x320002_5) = some true := H
        have A141 := Aside0.mk A1410
        clear A1410
        have H' := Aside0.mk H
        clear H
        have hnb142 := NB345_318.out
        have hnc142 := NB318_345.out
        have hnb143 := NB345_319.out
        have hnc143 := NB319_345.out
        have hnb144 := NB345_354.out
        have hnc144 := NB354_345.out
        have hcz145_0 : w135.cell? ⟨gb345, 0, none⟩ = some (.int .i64 t375) := (blk_cell BK345.out 0).trans rfl
        have hcz145_1 : w135.cell? ⟨gb345, 1, none⟩ = some (.slice Ao131 t376.length co131) := (blk_cell BK345.out 1).trans rfl
        have hcz145_2 : w135.cell? ⟨gb345, 2, none⟩ = some (.slice Ao132 t379.length co132) := (blk_cell BK345.out 2).trans rfl
        have hfz145_0 := blk_frozen BK345.out 0
        have hfz145_1 := blk_frozen BK345.out 1
        have hfz145_2 := blk_frozen BK345.out 2
        have hnb146 := NB354_318.out
        have hnc146 := NB318_354.out
        have hnb147 := NB354_319.out
        have hnc147 := NB319_354.out
        have hcz148_0 : w135.cell? ⟨gb354, 0, none⟩ = some (.int .i64 t365) := (blk_cell BK354.out 0).trans rfl
        have hcz148_1 : w135.cell? ⟨gb354, 1, none⟩ = some (.slice Ao106 t366.length co106) := (blk_cell BK354.out 1).trans rfl
        have hcz148_2 : w135.cell? ⟨gb354, 2, none⟩ = some (.slice Ao107 t369.length co107) := (blk_cell BK354.out 2).trans rfl
        have hfz148_0 := blk_frozen BK354.out 0
        have hfz148_1 := blk_frozen BK354.out 1
        have hfz148_2 := blk_frozen BK354.out 2
        go_wp2_with (first | (go_at_call 10; (with_reducible refine (customsref33_SameLine.calls kj90 t375 _ _ t376 _ _ t379 t383 _ _ t384 _ _ t387 t391 _ ?side1 ?side2 ?side3 ?side4 ?side5 ?side6 ?side7 ?side8 A141.out).mono ?_); (case side1 => refine (Kd.R_reads' (e := 3) (base := w.heap.size) (ok := fun k_ => (((w.heap.size ≤ k_) ∧ some k_ ≠ (.slice Ao132 t379.length co132 : Value).ownBlock) ∧ some k_ ≠ (.slice Ao138 t384.length co138 : Value).ownBlock)) (n := t376.length) (c := co131) ?_).2.2; exact (by (with_reducible repeat (first | apply Kd.R_alloc | apply Kd.R_drewN | apply Kd.R_drew)); exact (Kd.R_mono (Kd.R_far (p := ⟨gb354, 2, none⟩) (Kd.R_far (p := ⟨gb354, 1, none⟩) (Kd.R_far (p := ⟨gb354, 0, none⟩) (Kd.R_types HO378.out BK354.out (by decide)) (fun _ hk => hk.2) (.int .i64 t383)) (fun _ hk => hk.2) (.slice Ao138 t384.length co138)) (fun _ hk => hk.2) (.slice Ao139 t387.length co139)) (fun _ h_ => h_.1)))); (case side2 => exact (Kd.R_reads' HO378.out).2.1); (case side3 => refine (Kd.R_reads' (e := 3) (base := w.heap.size) (ok := fun k_ => (((w.heap.size ≤ k_) ∧ some k_ ≠ (.slice Ao131 t376.length co131 : Value).ownBlock) ∧ some k_ ≠ (.slice Ao138 t384.length co138 : Value).ownBlock)) (n := t379.length) (c := co132) ?_).2.2; exact (by (with_reducible repeat (first | apply Kd.R_alloc | apply Kd.R_drewN | apply Kd.R_drew)); exact (Kd.R_mono (Kd.R_far (p := ⟨gb354, 2, none⟩) (Kd.R_far (p := ⟨gb354, 1, none⟩) (Kd.R_far (p := ⟨gb354, 0, none⟩) (Kd.R_types HO381.out BK354.out (by decide)) (fun _ hk => hk.2) (.int .i64 t383)) (fun _ hk => hk.2) (.slice Ao138 t384.length co138)) (fun _ hk => hk.2) (.slice Ao139 t387.length co139)) (fun _ h_ => h_.1)))); (case side4 => exact (Kd.R_reads' HO381.out).2.1); (case side5 => refine (Kd.R_reads' (e := 3) (base := w.heap.size) (ok := fun k_ => ((((w.heap.size ≤ k_) ∧ True) ∧ some k_ ≠ (.slice Ao131 t376.length co131 : Value).ownBlock) ∧ some k_ ≠ (.slice Ao132 t379.length co132 : Value).ownBlock)) (n := t384.length) (c := co138) ?_).2.2; exact (by (with_reducible repeat (first | apply Kd.R_alloc | apply Kd.R_drewN | apply Kd.R_drew)); exact (Kd.R_mono (Kd.R_far (p := ⟨gb354, 2, none⟩) (Kd.R_far (p := ⟨gb354, 1, none⟩) (Kd.R_far (p := ⟨gb354, 0, none⟩) (Kd.R_types HO386.out BK354.out (by decide)) (fun _ hk => hk.2) (.int .i64 t383)) (fun _ hk => hk.2) (.slice Ao138 t384.length co138)) (fun _ hk => hk.2) (.slice Ao139 t387.length co139)) (fun _ h_ => h_.1)))); (case side6 => exact (Kd.R_reads' HO386.out).2.1); (case side7 => refine (Kd.V_reads' (e := 3) (base := w.heap.size) (ok := fun k_ => (((P0_1_ k_ ∨ P0_2_ k_) ∨ w.heap.size ≤ k_) ∧ (some k_ ≠ (.slice Ao138 t384.length co138 : Value).ownBlock ∧ (some k_ ≠ (.slice Ao131 t376.length co131 : Value).ownBlock ∧ (some k_ ≠ (.slice Ao132 t379.length co132 : Value).ownBlock ∧ (k_ ≠ gb318 ∧ (k_ ≠ gb319 ∧ (k_ ≠ gb345 ∧ k_ ≠ gb354)))))))) (n := t387.length) (c := co139) ?_).2.2; exact (by (with_reducible repeat (first | apply Kd.V_alloc | apply Kd.V_drewN | apply Kd.V_drew)); exact (Kd.V_mono (Kd.V_far (p := ⟨gb354, 2, none⟩) (Kd.V_far (p := ⟨gb354, 1, none⟩) (Kd.V_far (p := ⟨gb354, 0, none⟩) (Kd.V_mono HO389.out (fun k_ hk => (⟨hk, hk.2.2.2.2.2.2.2⟩ : _ ∧ k_ ≠ gb354))) (fun _ hk => hk.2) (.int .i64 t383)) (fun _ hk => hk.2) (.slice Ao138 t384.length co138)) (fun _ hk => hk.2) (.slice Ao139 t387.length co139)) (fun _ h_ => h_.1)))); (case side8 => exact (Kd.V_reads' HO389.out).2.1); rintro e w149 ⟨rfl, hb⟩; have n0_ := Aside0.mk (Kd.V_below (by (with_reducible repeat (first | apply Kd.V_alloc | apply Kd.V_drewN | apply Kd.V_drew)); exact (Kd.V_mono (Kd.V_far (p := ⟨gb354, 2, none⟩) (Kd.V_far (p := ⟨gb354, 1, none⟩) (Kd.V_far (p := ⟨gb354, 0, none⟩) (Kd.V_mono HO_319001.out (fun k_ hk => (⟨hk, hk.1.2.2.2.2.2.2⟩ : _ ∧ k_ ≠ gb354))) (fun _ hk => hk.2) (.int .i64 t383)) (fun _ hk => hk.2) (.slice Ao138 t384.length co138)) (fun _ hk => hk.2) (.slice Ao139 t387.length co139)) (fun _ h_ => h_.1))) hb); have n1_ := Aside0.mk (Kd.V_below (by (with_reducible repeat (first | apply Kd.V_alloc | apply Kd.V_drewN | apply Kd.V_drew)); exact (Kd.V_mono (Kd.V_far (p := ⟨gb354, 2, none⟩) (Kd.V_far (p := ⟨gb354, 1, none⟩) (Kd.V_far (p := ⟨gb354, 0, none⟩) (Kd.V_mono HO_319002.out (fun k_ hk => (⟨hk, hk.1.2.2.2.2.2.2⟩ : _ ∧ k_ ≠ gb354))) (fun _ hk => hk.2) (.int .i64 t383)) (fun _ hk => hk.2) (.slice Ao138 t384.length co138)) (fun _ hk => hk.2) (.slice Ao139 t387.length co139)) (fun _ h_ => h_.1))) hb); have n2_ := Aside0.mk (Kd.V_below (by (with_reducible repeat (first | apply Kd.V_alloc | apply Kd.V_drewN | apply Kd.V_drew)); exact (Kd.V_mono (Kd.V_far (p := ⟨gb354, 2, none⟩) (Kd.V_far (p := ⟨gb354, 1, none⟩) (Kd.V_far (p := ⟨gb354, 0, none⟩) (Kd.V_mono HO_320001.out (fun k_ hk => (⟨hk, hk.1.2.2.2.2.2.2⟩ : _ ∧ k_ ≠ gb354))) (fun _ hk => hk.2) (.int .i64 t383)) (fun _ hk => hk.2) (.slice Ao138 t384.length co138)) (fun _ hk => hk.2) (.slice Ao139 t387.length co139)) (fun _ h_ => h_.1))) hb); have n3_ := Aside0.mk (Kd.V_below (by (with_reducible repeat (first | apply Kd.V_alloc | apply Kd.V_drewN | apply Kd.V_drew)); exact (Kd.V_mono (Kd.V_far (p := ⟨gb354, 2, none⟩) (Kd.V_far (p := ⟨gb354, 1, none⟩) (Kd.V_far (p := ⟨gb354, 0, none⟩) (Kd.V_mono HO_320002.out (fun k_ hk => (⟨hk, hk.1.2.2.2.2.2.2⟩ : _ ∧ k_ ≠ gb354))) (fun _ hk => hk.2) (.int .i64 t383)) (fun _ hk => hk.2) (.slice Ao138 t384.length co138)) (fun _ hk => hk.2) (.slice Ao139 t387.length co139)) (fun _ h_ => h_.1))) hb); have n4_ := Aside0.mk (Kd.R_below (by (with_reducible repeat (first | apply Kd.R_alloc | apply Kd.R_drewN | apply Kd.R_drew)); exact (Kd.R_mono (Kd.R_far (p := ⟨gb354, 2, none⟩) (Kd.R_far (p := ⟨gb354, 1, none⟩) (Kd.R_far (p := ⟨gb354, 0, none⟩) (Kd.R_types HO378.out BK354.out (by decide)) (fun _ hk => hk.2) (.int .i64 t383)) (fun _ hk => hk.2) (.slice Ao138 t384.length co138)) (fun _ hk => hk.2) (.slice Ao139 t387.length co139)) (fun _ h_ => h_.1))) hb); have n5_ := Aside0.mk (Kd.R_below (by (with_reducible repeat (first | apply Kd.R_alloc | apply Kd.R_drewN | apply Kd.R_drew)); exact (Kd.R_mono (Kd.R_far (p := ⟨gb354, 2, none⟩) (Kd.R_far (p := ⟨gb354, 1, none⟩) (Kd.R_far (p := ⟨gb354, 0, none⟩) (Kd.R_types HO381.out BK354.out (by decide)) (fun _ hk => hk.2) (.int .i64 t383)) (fun _ hk => hk.2) (.slice Ao138 t384.length co138)) (fun _ hk => hk.2) (.slice Ao139 t387.length co139)) (fun _ h_ => h_.1))) hb); have n6_ := Aside0.mk (Kd.R_below (by (with_reducible repeat (first | apply Kd.R_alloc | apply Kd.R_drewN | apply Kd.R_drew)); exact (Kd.R_mono (Kd.R_far (p := ⟨gb354, 2, none⟩) (Kd.R_far (p := ⟨gb354, 1, none⟩) (Kd.R_far (p := ⟨gb354, 0, none⟩) (Kd.R_types HO386.out BK354.out (by decide)) (fun _ hk => hk.2) (.int .i64 t383)) (fun _ hk => hk.2) (.slice Ao138 t384.length co138)) (fun _ hk => hk.2) (.slice Ao139 t387.length co139)) (fun _ h_ => h_.1))) hb); have n7_ := Aside0.mk (Kd.V_below (by (with_reducible repeat (first | apply Kd.V_alloc | apply Kd.V_drewN | apply Kd.V_drew)); exact (Kd.V_mono (Kd.V_far (p := ⟨gb354, 2, none⟩) (Kd.V_far (p := ⟨gb354, 1, none⟩) (Kd.V_far (p := ⟨gb354, 0, none⟩) (Kd.V_mono HO389.out (fun k_ hk => (⟨hk, hk.2.2.2.2.2.2.2⟩ : _ ∧ k_ ≠ gb354))) (fun _ hk => hk.2) (.int .i64 t383)) (fun _ hk => hk.2) (.slice Ao138 t384.length co138)) (fun _ hk => hk.2) (.slice Ao139 t387.length co139)) (fun _ h_ => h_.1))) hb); have n8_ := Aside0.mk (blk_below (g := gb318) (o := .cells #[.int .i64 a0_0, .slice A0_1 l0_1.length c0_1, .slice A0_2 l0_2.length c0_2] 24 (0, 0)) (by (with_reducible repeat (first | refine blk_drewN ?_ _ | refine blk_drew ?_ | refine blk_alloc ?_ _)); refine blk_far ?_ NB318_354.out _; (with_reducible repeat (first | refine blk_drewN ?_ _ | refine blk_drew ?_ | refine blk_alloc ?_ _)); refine blk_far ?_ NB318_354.out _; (with_reducible repeat (first | refine blk_drewN ?_ _ | refine blk_drew ?_ | refine blk_alloc ?_ _)); refine blk_far ?_ NB318_354.out _; (with_reducible repeat (first | refine blk_drewN ?_ _ | refine blk_drew ?_ | refine blk_alloc ?_ _)); exact BK318.out) hb); have n9_ := Aside0.mk (blk_below (g := gb319) (o := .cells #[.int .i64 x320000_5, .slice Ao59 x320001_5.length co59, .slice Ao60 x320002_5.length co60] 24 (0, 0)) (by (with_reducible repeat (first | refine blk_drewN ?_ _ | refine blk_drew ?_ | refine blk_alloc ?_ _)); refine blk_far ?_ NB319_354.out _; (with_reducible repeat (first | refine blk_drewN ?_ _ | refine blk_drew ?_ | refine blk_alloc ?_ _)); refine blk_far ?_ NB319_354.out _; (with_reducible repeat (first | refine blk_drewN ?_ _ | refine blk_drew ?_ | refine blk_alloc ?_ _)); refine blk_far ?_ NB319_354.out _; (with_reducible repeat (first | refine blk_drewN ?_ _ | refine blk_drew ?_ | refine blk_alloc ?_ _)); exact BK319.out) hb); have n10_ := Aside0.mk (blk_below (g := gb345) (o := .cells #[.int .i64 t375, .slice Ao131 t376.length co131, .slice Ao132 t379.length co132] 24 (0, 0)) (by (with_reducible repeat (first | refine blk_drewN ?_ _ | refine blk_drew ?_ | refine blk_alloc ?_ _)); refine blk_far ?_ NB345_354.out _; (with_reducible repeat (first | refine blk_drewN ?_ _ | refine blk_drew ?_ | refine blk_alloc ?_ _)); refine blk_far ?_ NB345_354.out _; (with_reducible repeat (first | refine blk_drewN ?_ _ | refine blk_drew ?_ | refine blk_alloc ?_ _)); refine blk_far ?_ NB345_354.out _; (with_reducible repeat (first | refine blk_drewN ?_ _ | refine blk_drew ?_ | refine blk_alloc ?_ _)); exact BK345.out) hb); have n11_ := Aside0.mk (blk_below (g := gb354) (o := .cells #[.int .i64 t383, .slice Ao138 t384.length co138, .slice Ao139 t387.length co139] 24 (0, 0)) (by (with_reducible repeat (first | refine blk_drewN ?_ _ | refine blk_drew ?_ | refine blk_alloc ?_ _)); refine blk_put (cs := #[.int .i64 t383, .slice Ao138 t384.length co138, .slice Ao107 t369.length co107]) ?_ 2 _ rfl; (with_reducible repeat (first | refine blk_drewN ?_ _ | refine blk_drew ?_ | refine blk_alloc ?_ _)); refine blk_put (cs := #[.int .i64 t383, .slice Ao106 t366.length co106, .slice Ao107 t369.length co107]) ?_ 1 _ rfl; (with_reducible repeat (first | refine blk_drewN ?_ _ | refine blk_drew ?_ | refine blk_alloc ?_ _)); refine blk_put (cs := #[.int .i64 t365, .slice Ao106 t366.length co106, .slice Ao107 t369.length co107]) ?_ 0 _ rfl; (with_reducible repeat (first | refine blk_drewN ?_ _ | refine blk_drew ?_ | refine blk_alloc ?_ _)); exact BK354.out) hb); have n12_ := Aside0.mk (below_step (by repeat (first | (with_reducible first | exact HB.out | apply below_alloc | apply pw_below_drewN | apply below_drew1 | refine below_set ?_ GE318.out | refine below_set ?_ GE319.out | refine below_set ?_ GE345.out | refine below_set ?_ GE354.out) | exact HB.out)) hb); clear HO_319001; clear HO_319002; clear HO_320001; clear HO_320002; clear HO378; clear HO381; clear HO386; clear HO389; clear BK318; clear BK319; clear BK345; clear BK354; clear HB; have HO_319001 := n0_; have HO_319002 := n1_; have HO_320001 := n2_; have HO_320002 := n3_; have HO378 := n4_; have HO381 := n5_; have HO386 := n6_; have HO389 := n7_; have BK318 := n8_; have BK319 := n9_; have BK345 := n10_; have BK354 := n11_; have HB := n12_; clear n0_ n1_ n2_ n3_ n4_ n5_ n6_ n7_ n8_ n9_ n10_ n11_ n12_; (try clear hb); (try clear hb2); (try clear hk); (try clear hi)))
        go_meet
        case rel => exact ⟨_, (!t391), (by first | rfl | (simp; done) | (simp [*]; done)), H', ⟨by have := HJ5.out; have := HJ55.out; have := HJ90.out; first | omega | exact Nat.le_refl _⟩, ⟨by exact pV (Kd.V_mono HO_319001.out (fun _ hk => ⟨hk.1.1, ⟨hk.1.2.1, ⟨hk.1.2.2.1, ⟨hk.2, ⟨hk.1.2.2.2.1, ⟨hk.1.2.2.2.2.1, ⟨hk.1.2.2.2.2.2.1, hk.1.2.2.2.2.2.2⟩⟩⟩⟩⟩⟩⟩))⟩, ⟨by exact pV (Kd.V_mono HO_319002.out (fun _ hk => ⟨hk.1.1, ⟨hk.1.2.1, ⟨hk.1.2.2.1, ⟨hk.2, ⟨hk.1.2.2.2.1, ⟨hk.1.2.2.2.2.1, ⟨hk.1.2.2.2.2.2.1, hk.1.2.2.2.2.2.2⟩⟩⟩⟩⟩⟩⟩))⟩, ⟨by exact pV (Kd.V_mono HO_320001.out (fun _ hk => ⟨hk.1.1, ⟨hk.1.2.1, ⟨hk.1.2.2.1, ⟨hk.2, ⟨hk.1.2.2.2.1, ⟨hk.1.2.2.2.2.1, ⟨hk.1.2.2.2.2.2.1, hk.1.2.2.2.2.2.2⟩⟩⟩⟩⟩⟩⟩))⟩, ⟨by exact pV (Kd.V_mono HO_320002.out (fun _ hk => ⟨hk.1.1, ⟨hk.1.2.1, ⟨hk.1.2.2.1, ⟨hk.2, ⟨hk.1.2.2.2.1, ⟨hk.1.2.2.2.2.1, ⟨hk.1.2.2.2.2.2.1, hk.1.2.2.2.2.2.2⟩⟩⟩⟩⟩⟩⟩))⟩, ⟨by exact pR (Kd.R_mono HO378.out (fun _ hk => ⟨hk.1.1, ⟨hk.1.2, hk.2⟩⟩))⟩, ⟨by exact pR (Kd.R_mono HO381.out (fun _ hk => ⟨hk.1.1, ⟨hk.1.2, hk.2⟩⟩))⟩, ⟨by exact pR (Kd.R_mono HO386.out (fun _ hk => ⟨hk.1.1.1, ⟨hk.1.2, hk.2⟩⟩))⟩, ⟨by exact pV (Kd.V_mono HO389.out (fun _ hk => ⟨hk.1, ⟨hk.2.2.1, ⟨hk.2.2.2.1, ⟨hk.2.1, ⟨hk.2.2.2.2.1, ⟨hk.2.2.2.2.2.1, ⟨hk.2.2.2.2.2.2.1, hk.2.2.2.2.2.2.2⟩⟩⟩⟩⟩⟩⟩))⟩, ⟨by exact pK BK318.out⟩, ⟨by exact pK BK319.out⟩, ⟨by exact pK BK345.out⟩, ⟨by exact pK BK354.out⟩, ⟨by exact pB HB.out⟩⟩
      · rw [if_neg c140] at H
        have c140b0 : (t382 == t390) = false := beq_eq_false_iff_ne.mpr c140
        have c140b1 : (t382 != t390) = true := bne_iff_ne.mpr c140
        (first | rw [c140b0] | (simp only [i64_w, i32_w]; rw [c140b0]) | skip)
        exact absurd H (by cases kj90 <;> simp [customslaw38_ChannelSteps.j6])
    case rest => as_aux_lemma =>
      clear HC122
      try clear c1; try clear c2; try clear p2; try clear c3; try clear p3; try clear q3; try clear hx3; try clear c4; try clear c5; try clear c6; try clear p6; try clear c7; try clear c8; try clear c9; try clear c10; try clear c11; try clear c12; try clear c13; try clear c14; try clear c15; try clear c16; try clear c17; try clear c18; try clear c18b0; try clear c19; try clear c19b0; try clear c20; try clear c20b0; try clear c22; try clear c23; try clear c29; try clear c31; try clear p32; try clear q32; try clear hx32; try clear c33; try clear c33b0; try clear c34; try clear c34b0; try clear c35; try clear c35b0; try clear c37; try clear c38; try clear c47; try clear c52; try clear c57; try clear c63; try clear c64; try clear p64; try clear c72; try clear c73; try clear c74; try clear c78; try clear c78b0; try clear c78b1; try clear c80; try clear c81; try clear c82; try clear c84; try clear c85; try clear c88; try clear c92; try clear c93; try clear c94; try clear c97; try clear c98; try clear c104; try clear c108; try clear c108b0; try clear c108b1; try clear c109; try clear c109b0; try clear c109b1; try clear c111; try clear c112; try clear c113; try clear c115; try clear c116; try clear c119; try clear c123; try clear c124; try clear c125; try clear c128; try clear c129; try clear c136; try clear c140; try clear c140b0; try clear c140b1; try clear c142; try clear c143; try clear c144; try clear c146; try clear c147; try clear hcz102_0; try clear hcz102_1; try clear hcz102_2; try clear hcz105_0; try clear hcz105_1; try clear hcz105_2; try clear hcz114_0; try clear hcz114_1; try clear hcz114_2; try clear hcz117_0; try clear hcz117_1; try clear hcz117_2; try clear hcz11_0; try clear hcz11_1; try clear hcz11_2; try clear hcz126_0; try clear hcz126_1; try clear hcz126_2; try clear hcz130_0; try clear hcz130_1; try clear hcz130_2; try clear hcz134_0; try clear hcz134_1; try clear hcz134_2; try clear hcz137_0; try clear hcz137_1; try clear hcz137_2
      try clear hcz145_0; try clear hcz145_1; try clear hcz145_2; try clear hcz148_0; try clear hcz148_1; try clear hcz148_2; try clear hcz16_0; try clear hcz16_1; try clear hcz16_2; try clear hcz17_0; try clear hcz17_1; try clear hcz17_2; try clear hcz24_0; try clear hcz24_1; try clear hcz24_2; try clear hcz30_0; try clear hcz30_1; try clear hcz30_2; try clear hcz32_0; try clear hcz32_1; try clear hcz32_2; try clear hcz39_0; try clear hcz39_1; try clear hcz39_2; try clear hcz48_0; try clear hcz48_1; try clear hcz48_2; try clear hcz53_0; try clear hcz53_1; try clear hcz53_2; try clear hcz58_0; try clear hcz58_1; try clear hcz58_2; try clear hcz65_0; try clear hcz65_1; try clear hcz65_2; try clear hcz69_0; try clear hcz69_1; try clear hcz69_2; try clear hcz75_0; try clear hcz75_1; try clear hcz75_2; try clear hcz83_0; try clear hcz83_1; try clear hcz83_2; try clear hcz86_0; try clear hcz86_1; try clear hcz86_2; try clear hcz8_0; try clear hcz8_1; try clear hcz8_2; try clear hcz95_0; try clear hcz95_1; try clear hcz95_2; try clear hcz99_0; try clear hcz99_1; try clear hcz99_2; try clear hfz102_0; try clear hfz102_1; try clear hfz102_2; try clear hfz105_0; try clear hfz105_1; try clear hfz105_2; try clear hfz114_0; try clear hfz114_1; try clear hfz114_2; try clear hfz117_0; try clear hfz117_1; try clear hfz117_2; try clear hfz11_0; try clear hfz11_1; try clear hfz11_2; try clear hfz126_0; try clear hfz126_1; try clear hfz126_2; try clear hfz130_0; try clear hfz130_1; try clear hfz130_2; try clear hfz134_0; try clear hfz134_1; try clear hfz134_2; try clear hfz137_0; try clear hfz137_1; try clear hfz137_2; try clear hfz145_0; try clear hfz145_1; try clear hfz145_2; try clear hfz148_0; try clear hfz148_1; try clear hfz148_2; try clear hfz16_0; try clear hfz16_1; try clear hfz16_2; try clear hfz17_0; try clear hfz17_1; try clear hfz17_2; try clear hfz24_0; try clear hfz24_1; try clear hfz24_2; try clear hfz30_0; try clear hfz30_1; try clear hfz30_2; try clear hfz32_0; try clear hfz32_1; try clear hfz32_2; try clear hfz39_0; try clear hfz39_1; try clear hfz39_2; try clear hfz48_0; try clear hfz48_1; try clear hfz48_2; try clear hfz53_0; try clear hfz53_1; try clear hfz53_2; try clear hfz58_0; try clear hfz58_1; try clear hfz58_2; try clear hfz65_0; try clear hfz65_1; try clear hfz65_2
      try clear hfz69_0; try clear hfz69_1; try clear hfz69_2; try clear hfz75_0; try clear hfz75_1; try clear hfz75_2; try clear hfz83_0; try clear hfz83_1; try clear hfz83_2; try clear hfz86_0; try clear hfz86_1; try clear hfz86_2; try clear hfz8_0; try clear hfz8_1; try clear hfz8_2; try clear hfz95_0; try clear hfz95_1; try clear hfz95_2; try clear hfz99_0; try clear hfz99_1; try clear hfz99_2; try clear hx321_0; try clear hx326_0; try clear p2; try clear p3; try clear p32; try clear p321; try clear p326; try clear p6; try clear p64; try clear q3; try clear q32; try clear q321; try clear q326
      obtain ⟨kq, x149_121, rfl, HA, HJ121, HO_319001, HO_319002, HO_320001, HO_320002, HO_346001, HO_346002, HO_355001, HO_355002, BK318, BK319, BK345, BK354, HB⟩ := hcut
      cases kq with
      | zero => exact absurd HA.out (by simp [customslaw38_ChannelSteps.j6])
      | succ kj121 =>
        have H := HA.out
        clear HA
        simp only [customslaw38_ChannelSteps.j6] at H
        have c150 : ¬ (x149_121 = true) := by
          intro c150
          rw [if_pos c150] at H
          exact absurd (Option.some.inj H) (by simp)
        replace c150 := Bool.eq_false_iff.mpr c150
        subst c150
        have H1 : ((channel_Repeat.f x320000_5 x320001_5 x320002_5 x2_5).bind fun bt392 => ((customsref33_Repeat.f kj121 x320000_5 x320001_5 x320002_5 x2_5).bind fun bt400 => (if bt392.2.2.2 = bt400.2.2.2 then ((customsref33_SameLine.f kj121 bt392.1 bt392.2.1 bt392.2.2.1 bt400.1 bt400.2.1 bt400.2.2.1).bind fun t408 => (customslaw38_ChannelSteps.j7 kj121 x1_5 x2_5 (!t408) x320000_5 x320001_5 x320002_5)) else (customslaw38_ChannelSteps.j7 kj121 x1_5 x2_5 true x320000_5 x320001_5 x320002_5)))) = some true := by rw [if_neg (show ¬ (false = true) by decide)] at H; exact H
        clear H
        have H := H1
        clear H1
        replace H := Option.bind_eq_some_iff.mp H
        obtain ⟨⟨t392, t393, t396, t399⟩, A1510, H⟩ := H
        replace H : ((customsref33_Repeat.f kj121 x320000_5 x320001_5 x320002_5 x2_5).bind fun bt400 => (if t399 = bt400.2.2.2 then ((customsref33_SameLine.f kj121 t392 t393 t396 bt400.1 bt400.2.1 bt400.2.2.1).bind fun t408 => (customslaw38_ChannelSteps.j7 kj121 x1_5 x2_5 (!t408) x320000_5 x320001_5 x320002_5)) else (customslaw38_ChannelSteps.j7 kj121 x1_5 x2_5 true x320000_5 x320001_5 x320002_5))) = some true := H
        have A151 := Aside0.mk A1510
        clear A1510
        replace H := Option.bind_eq_some_iff.mp H
        obtain ⟨⟨t400, t401, t404, t407⟩, A1520, H⟩ := H
        replace H : (if t399 = t407 then ((customsref33_SameLine.f kj121 t392 t393 t396 t400 t401 t404).bind fun t408 => (customslaw38_ChannelSteps.j7 kj121 x1_5 x2_5 (!t408) x320000_5 x320001_5 x320002_5)) else (customslaw38_ChannelSteps.j7 kj121 x1_5 x2_5 true x320000_5 x320001_5 x320002_5)) = some true := H
        have A152 := Aside0.mk A1520
        clear A1520
        have HC153 := Aside0.mk H
        clear H
        have hnb154 := NB319_318.out
        have hnc154 := NB318_319.out
        have hnb155 := NB319_345.out
        have hnc155 := NB345_319.out
        have hnb156 := NB319_354.out
        have hnc156 := NB354_319.out
        have hcz157_0 : wc.cell? ⟨gb319, 0, none⟩ = some (.int .i64 x320000_5) := (blk_cell BK319.out 0).trans rfl
        have hcz157_1 : wc.cell? ⟨gb319, 1, none⟩ = some (.slice Ao59 x320001_5.length co59) := (blk_cell BK319.out 1).trans rfl
        have hcz157_2 : wc.cell? ⟨gb319, 2, none⟩ = some (.slice Ao60 x320002_5.length co60) := (blk_cell BK319.out 2).trans rfl
        have hfz157_0 := blk_frozen BK319.out 0
        have hfz157_1 := blk_frozen BK319.out 1
        have hfz157_2 := blk_frozen BK319.out 2
        go_upto_region 27 with (first | ((with_reducible refine gate_callee (f := 19) rfl ?_); refine goesL_ (some 153) rfl rfl Try.func19 (by kernel_rfl) rfl #[.agg #[.int .i64 x320000_5, .slice Ao59 x320001_5.length co59, .slice Ao60 x320002_5.length co60], .int .i64 x2_5] rfl (by (try simp only [List.map_toArray, List.map_cons, List.map_nil]); first | done | rfl | (simp only [List.length_drop, List.length_take]; rfl)) ?_; (with_reducible refine (channel_Repeat.calls x320000_5 _ _ x320001_5 _ _ x320002_5 x2_5 t392 t393 t396 t399 _ ?side1 ?side2 ?side3 ?side4 A151.out).mono ?_); (case side1 => exact pC (Kd.V_reads' HO_320001.out).2.2); (case side2 => exact (Kd.V_reads' HO_320001.out).2.1); (case side3 => exact pC (Kd.V_reads' HO_320002.out).2.2); (case side4 => exact (Kd.V_reads' HO_320002.out).2.1); rintro e w158 ⟨v394, v397, rfl, ho0, ho1, hb⟩; refine ⟨_, rfl, ?_⟩; have n0_ := Aside0.mk (Kd.V_mono (Kd.V_told (Kd.V_told (Kd.V_old (by exact pV HO_319001.out) hb) (Kd.R_base ho0)) (Kd.R_base ho1)) (fun _ h_ => h_.1)); have n1_ := Aside0.mk (Kd.V_mono (Kd.V_told (Kd.V_told (Kd.V_old (by exact pV HO_319002.out) hb) (Kd.R_base ho0)) (Kd.R_base ho1)) (fun _ h_ => h_.1)); have n2_ := Aside0.mk (Kd.V_mono (Kd.V_told (Kd.V_told (Kd.V_old (by exact pV HO_320001.out) hb) (Kd.R_base ho0)) (Kd.R_base ho1)) (fun _ h_ => h_.1)); have n3_ := Aside0.mk (Kd.V_mono (Kd.V_told (Kd.V_told (Kd.V_old (by exact pV HO_320002.out) hb) (Kd.R_base ho0)) (Kd.R_base ho1)) (fun _ h_ => h_.1)); have n4_ := Aside0.mk (Kd.R_lower (Kd.R_newM (M := fun k_ => (w.heap.size ≤ k_)) ho0 (below_size (by exact pB HB.out)) (fun k_ h_ => h_)) (below_size (by exact pB HB.out))); have n5_ := Aside0.mk (Kd.R_lower (Kd.R_newM (M := fun k_ => (w.heap.size ≤ k_)) ho1 (below_size (by exact pB HB.out)) (fun k_ h_ => h_)) (below_size (by exact pB HB.out))); have n6_ := Aside0.mk (blk_below (g := gb318) (o := .cells #[.int .i64 a0_0, .slice A0_1 l0_1.length c0_1, .slice A0_2 l0_2.length c0_2] 24 (0, 0)) (by exact pK BK318.out) hb); have n7_ := Aside0.mk (blk_below (g := gb319) (o := .cells #[.int .i64 x320000_5, .slice Ao59 x320001_5.length co59, .slice Ao60 x320002_5.length co60] 24 (0, 0)) (by exact pK BK319.out) hb); have n8_ := Aside0.mk (blk_below (g := gb345) (o := .cells #[.int .i64 t375, .slice Ao131 t376.length co131, .slice Ao132 t379.length co132] 24 (0, 0)) (by exact pK BK345.out) hb); have n9_ := Aside0.mk (blk_below (g := gb354) (o := .cells #[.int .i64 t383, .slice Ao138 t384.length co138, .slice Ao139 t387.length co139] 24 (0, 0)) (by exact pK BK354.out) hb); have n10_ := Aside0.mk (below_step (by exact pB HB.out) hb); clear HO_319001; clear HO_319002; clear HO_320001; clear HO_320002; clear BK318; clear BK319; clear BK345; clear BK354; clear HB; have HO_319001 := n0_; have HO_319002 := n1_; have HO_320001 := n2_; have HO_320002 := n3_; have HO395 := n4_; have HO398 := n5_; have BK318 := n6_; have BK319 := n7_; have BK345 := n8_; have BK354 := n9_; have HB := n10_; clear n0_ n1_ n2_ n3_ n4_ n5_ n6_ n7_ n8_ n9_ n10_; (try clear hb); (try clear hb2); (try clear hk); (try clear hi); (try clear ho0); (try clear ho1); have hnb159 := NB345_318.out; have hnc159 := NB318_345.out; have hnb160 := NB345_354.out; have hnc160 := NB354_345.out; have hcz161_0 : w158.cell? ⟨gb345, 0, none⟩ = some (.int .i64 t375) := (blk_cell BK345.out 0).trans rfl; have hcz161_1 : w158.cell? ⟨gb345, 1, none⟩ = some (.slice Ao131 t376.length co131) := (blk_cell BK345.out 1).trans rfl; have hcz161_2 : w158.cell? ⟨gb345, 2, none⟩ = some (.slice Ao132 t379.length co132) := (blk_cell BK345.out 2).trans rfl; have hfz161_0 := blk_frozen BK345.out 0; have hfz161_1 := blk_frozen BK345.out 1; have hfz161_2 := blk_frozen BK345.out 2; obtain ⟨Ao162, co162, eo162⟩ := Kd.R_slice HO395.out; subst eo162; obtain ⟨Ao163, co163, eo163⟩ := Kd.R_slice HO398.out; subst eo163) | ((with_reducible refine gate_store (t := 24) (p := 14) rfl ?_); refine store_event (t := 24) (p := 14) (v := ?vo_w164) (w1 := (((w158.setCell ⟨gb345, 0, none⟩ (.int .i64 t392)).setCell ⟨gb345, 1, none⟩ (.slice Ao162 t393.length co162)).setCell ⟨gb345, 2, none⟩ (.slice Ao163 t396.length co163))) ?hg ?ho ?hn ?hr ?_; (case ho => rfl); (case hg => rfl); (case hn => rfl); (case hr => first | (go_simp; done) | (go_simp; rfl)); intro w164 hw; have n0_ : Aside0 (Kd.V (Kd.int .i64) 3 w164 w.heap.size (fun k_ => ((P0_1_ k_ ∨ P0_2_ k_) ∨ w.heap.size ≤ k_) ∧ some k_ ≠ (.slice Ao162 t393.length co162 : Value).ownBlock ∧ some k_ ≠ (.slice Ao163 t396.length co163 : Value).ownBlock ∧ k_ ≠ gb318 ∧ k_ ≠ gb319 ∧ k_ ≠ gb345 ∧ k_ ≠ gb354) (.slice A0_1 l0_1.length c0_1) l0_1) := ⟨(by rw [hw]; exact (by (with_reducible repeat (first | apply Kd.V_alloc | apply Kd.V_drewN | apply Kd.V_drew)); exact Kd.V_mono (Kd.V_far (p := ⟨gb345, 2, none⟩) (Kd.V_far (p := ⟨gb345, 1, none⟩) (Kd.V_far (p := ⟨gb345, 0, none⟩) (Kd.V_mono HO_319001.out (fun k_ hk => (⟨hk, hk.1.1.2.2.2.2.2.2.1⟩ : _ ∧ k_ ≠ gb345))) (fun _ hk => hk.2) (.int .i64 t392)) (fun _ hk => hk.2) (.slice Ao162 t393.length co162)) (fun _ hk => hk.2) (.slice Ao163 t396.length co163)) (fun _ hk => ⟨hk.1.1.1.1, ⟨hk.1.1.2, ⟨hk.1.2, ⟨hk.1.1.1.2.2.2.2.1, ⟨hk.1.1.1.2.2.2.2.2.1, ⟨hk.1.1.1.2.2.2.2.2.2.1, hk.1.1.1.2.2.2.2.2.2.2⟩⟩⟩⟩⟩⟩)))⟩; have n1_ : Aside0 (Kd.V (Kd.int .i64) 3 w164 w.heap.size (fun k_ => ((P0_1_ k_ ∨ P0_2_ k_) ∨ w.heap.size ≤ k_) ∧ some k_ ≠ (.slice Ao162 t393.length co162 : Value).ownBlock ∧ some k_ ≠ (.slice Ao163 t396.length co163 : Value).ownBlock ∧ k_ ≠ gb318 ∧ k_ ≠ gb319 ∧ k_ ≠ gb345 ∧ k_ ≠ gb354) (.slice A0_2 l0_2.length c0_2) l0_2) := ⟨(by rw [hw]; exact (by (with_reducible repeat (first | apply Kd.V_alloc | apply Kd.V_drewN | apply Kd.V_drew)); exact Kd.V_mono (Kd.V_far (p := ⟨gb345, 2, none⟩) (Kd.V_far (p := ⟨gb345, 1, none⟩) (Kd.V_far (p := ⟨gb345, 0, none⟩) (Kd.V_mono HO_319002.out (fun k_ hk => (⟨hk, hk.1.1.2.2.2.2.2.2.1⟩ : _ ∧ k_ ≠ gb345))) (fun _ hk => hk.2) (.int .i64 t392)) (fun _ hk => hk.2) (.slice Ao162 t393.length co162)) (fun _ hk => hk.2) (.slice Ao163 t396.length co163)) (fun _ hk => ⟨hk.1.1.1.1, ⟨hk.1.1.2, ⟨hk.1.2, ⟨hk.1.1.1.2.2.2.2.1, ⟨hk.1.1.1.2.2.2.2.2.1, ⟨hk.1.1.1.2.2.2.2.2.2.1, hk.1.1.1.2.2.2.2.2.2.2⟩⟩⟩⟩⟩⟩)))⟩; have n2_ : Aside0 (Kd.V (Kd.int .i64) 3 w164 w.heap.size (fun k_ => ((P0_1_ k_ ∨ P0_2_ k_) ∨ w.heap.size ≤ k_) ∧ some k_ ≠ (.slice Ao162 t393.length co162 : Value).ownBlock ∧ some k_ ≠ (.slice Ao163 t396.length co163 : Value).ownBlock ∧ k_ ≠ gb318 ∧ k_ ≠ gb319 ∧ k_ ≠ gb345 ∧ k_ ≠ gb354) (.slice Ao59 x320001_5.length co59) x320001_5) := ⟨(by rw [hw]; exact (by (with_reducible repeat (first | apply Kd.V_alloc | apply Kd.V_drewN | apply Kd.V_drew)); exact Kd.V_mono (Kd.V_far (p := ⟨gb345, 2, none⟩) (Kd.V_far (p := ⟨gb345, 1, none⟩) (Kd.V_far (p := ⟨gb345, 0, none⟩) (Kd.V_mono HO_320001.out (fun k_ hk => (⟨hk, hk.1.1.2.2.2.2.2.2.1⟩ : _ ∧ k_ ≠ gb345))) (fun _ hk => hk.2) (.int .i64 t392)) (fun _ hk => hk.2) (.slice Ao162 t393.length co162)) (fun _ hk => hk.2) (.slice Ao163 t396.length co163)) (fun _ hk => ⟨hk.1.1.1.1, ⟨hk.1.1.2, ⟨hk.1.2, ⟨hk.1.1.1.2.2.2.2.1, ⟨hk.1.1.1.2.2.2.2.2.1, ⟨hk.1.1.1.2.2.2.2.2.2.1, hk.1.1.1.2.2.2.2.2.2.2⟩⟩⟩⟩⟩⟩)))⟩; have n3_ : Aside0 (Kd.V (Kd.int .i64) 3 w164 w.heap.size (fun k_ => ((P0_1_ k_ ∨ P0_2_ k_) ∨ w.heap.size ≤ k_) ∧ some k_ ≠ (.slice Ao162 t393.length co162 : Value).ownBlock ∧ some k_ ≠ (.slice Ao163 t396.length co163 : Value).ownBlock ∧ k_ ≠ gb318 ∧ k_ ≠ gb319 ∧ k_ ≠ gb345 ∧ k_ ≠ gb354) (.slice Ao60 x320002_5.length co60) x320002_5) := ⟨(by rw [hw]; exact (by (with_reducible repeat (first | apply Kd.V_alloc | apply Kd.V_drewN | apply Kd.V_drew)); exact Kd.V_mono (Kd.V_far (p := ⟨gb345, 2, none⟩) (Kd.V_far (p := ⟨gb345, 1, none⟩) (Kd.V_far (p := ⟨gb345, 0, none⟩) (Kd.V_mono HO_320002.out (fun k_ hk => (⟨hk, hk.1.1.2.2.2.2.2.2.1⟩ : _ ∧ k_ ≠ gb345))) (fun _ hk => hk.2) (.int .i64 t392)) (fun _ hk => hk.2) (.slice Ao162 t393.length co162)) (fun _ hk => hk.2) (.slice Ao163 t396.length co163)) (fun _ hk => ⟨hk.1.1.1.1, ⟨hk.1.1.2, ⟨hk.1.2, ⟨hk.1.1.1.2.2.2.2.1, ⟨hk.1.1.1.2.2.2.2.2.1, ⟨hk.1.1.1.2.2.2.2.2.2.1, hk.1.1.1.2.2.2.2.2.2.2⟩⟩⟩⟩⟩⟩)))⟩; have n4_ : Aside0 (Kd.R (Kd.int .i64) 3 w164 w.heap.size (fun k_ => (w.heap.size ≤ k_) ∧ some k_ ≠ (.slice Ao163 t396.length co163 : Value).ownBlock) (.slice Ao162 t393.length co162) t393) := ⟨(by rw [hw]; exact (by (with_reducible repeat (first | apply Kd.R_alloc | apply Kd.R_drewN | apply Kd.R_drew)); exact Kd.R_mono (Kd.R_far (p := ⟨gb345, 2, none⟩) (Kd.R_far (p := ⟨gb345, 1, none⟩) (Kd.R_far (p := ⟨gb345, 0, none⟩) (Kd.R_types HO395.out BK345.out (by decide)) (fun _ hk => hk.2) (.int .i64 t392)) (fun _ hk => hk.2) (.slice Ao162 t393.length co162)) (fun _ hk => hk.2) (.slice Ao163 t396.length co163)) (fun _ hk => ⟨hk.1.1, hk.1.2⟩)))⟩; have n5_ : Aside0 (Kd.R (Kd.int .i64) 3 w164 w.heap.size (fun k_ => (w.heap.size ≤ k_) ∧ some k_ ≠ (.slice Ao162 t393.length co162 : Value).ownBlock) (.slice Ao163 t396.length co163) t396) := ⟨(by rw [hw]; exact (by (with_reducible repeat (first | apply Kd.R_alloc | apply Kd.R_drewN | apply Kd.R_drew)); exact Kd.R_mono (Kd.R_far (p := ⟨gb345, 2, none⟩) (Kd.R_far (p := ⟨gb345, 1, none⟩) (Kd.R_far (p := ⟨gb345, 0, none⟩) (Kd.R_types HO398.out BK345.out (by decide)) (fun _ hk => hk.2) (.int .i64 t392)) (fun _ hk => hk.2) (.slice Ao162 t393.length co162)) (fun _ hk => hk.2) (.slice Ao163 t396.length co163)) (fun _ hk => ⟨hk.1.1, hk.1.2⟩)))⟩; have n6_ : Aside0 (w164.heap[gb318]? = some (.cells #[.int .i64 a0_0, .slice A0_1 l0_1.length c0_1, .slice A0_2 l0_2.length c0_2] 24 (0, 0))) := ⟨(by rw [hw]; exact (by (with_reducible repeat (first | refine blk_drewN ?_ _ | refine blk_drew ?_ | refine blk_alloc ?_ _)); refine blk_far ?_ NB318_345.out _; (with_reducible repeat (first | refine blk_drewN ?_ _ | refine blk_drew ?_ | refine blk_alloc ?_ _)); refine blk_far ?_ NB318_345.out _; (with_reducible repeat (first | refine blk_drewN ?_ _ | refine blk_drew ?_ | refine blk_alloc ?_ _)); refine blk_far ?_ NB318_345.out _; (with_reducible repeat (first | refine blk_drewN ?_ _ | refine blk_drew ?_ | refine blk_alloc ?_ _)); exact BK318.out))⟩; have n7_ : Aside0 (w164.heap[gb319]? = some (.cells #[.int .i64 x320000_5, .slice Ao59 x320001_5.length co59, .slice Ao60 x320002_5.length co60] 24 (0, 0))) := ⟨(by rw [hw]; exact (by (with_reducible repeat (first | refine blk_drewN ?_ _ | refine blk_drew ?_ | refine blk_alloc ?_ _)); refine blk_far ?_ NB319_345.out _; (with_reducible repeat (first | refine blk_drewN ?_ _ | refine blk_drew ?_ | refine blk_alloc ?_ _)); refine blk_far ?_ NB319_345.out _; (with_reducible repeat (first | refine blk_drewN ?_ _ | refine blk_drew ?_ | refine blk_alloc ?_ _)); refine blk_far ?_ NB319_345.out _; (with_reducible repeat (first | refine blk_drewN ?_ _ | refine blk_drew ?_ | refine blk_alloc ?_ _)); exact BK319.out))⟩; have n8_ : Aside0 (w164.heap[gb345]? = some (.cells #[.int .i64 t392, .slice Ao162 t393.length co162, .slice Ao163 t396.length co163] 24 (0, 0))) := ⟨(by rw [hw]; exact (by (with_reducible repeat (first | refine blk_drewN ?_ _ | refine blk_drew ?_ | refine blk_alloc ?_ _)); refine blk_put (cs := #[.int .i64 t392, .slice Ao162 t393.length co162, .slice Ao132 t379.length co132]) ?_ 2 _ rfl; (with_reducible repeat (first | refine blk_drewN ?_ _ | refine blk_drew ?_ | refine blk_alloc ?_ _)); refine blk_put (cs := #[.int .i64 t392, .slice Ao131 t376.length co131, .slice Ao132 t379.length co132]) ?_ 1 _ rfl; (with_reducible repeat (first | refine blk_drewN ?_ _ | refine blk_drew ?_ | refine blk_alloc ?_ _)); refine blk_put (cs := #[.int .i64 t375, .slice Ao131 t376.length co131, .slice Ao132 t379.length co132]) ?_ 0 _ rfl; (with_reducible repeat (first | refine blk_drewN ?_ _ | refine blk_drew ?_ | refine blk_alloc ?_ _)); exact BK345.out))⟩; have n9_ : Aside0 (w164.heap[gb354]? = some (.cells #[.int .i64 t383, .slice Ao138 t384.length co138, .slice Ao139 t387.length co139] 24 (0, 0))) := ⟨(by rw [hw]; exact (by (with_reducible repeat (first | refine blk_drewN ?_ _ | refine blk_drew ?_ | refine blk_alloc ?_ _)); refine blk_far ?_ NB354_345.out _; (with_reducible repeat (first | refine blk_drewN ?_ _ | refine blk_drew ?_ | refine blk_alloc ?_ _)); refine blk_far ?_ NB354_345.out _; (with_reducible repeat (first | refine blk_drewN ?_ _ | refine blk_drew ?_ | refine blk_alloc ?_ _)); refine blk_far ?_ NB354_345.out _; (with_reducible repeat (first | refine blk_drewN ?_ _ | refine blk_drew ?_ | refine blk_alloc ?_ _)); exact BK354.out))⟩; have n10_ : Aside0 (Below w.heap.size w w164) := ⟨(by rw [hw]; exact (by repeat (first | (with_reducible first | exact HB.out | apply below_alloc | apply pw_below_drewN | apply below_drew1 | refine below_set ?_ GE318.out | refine below_set ?_ GE319.out | refine below_set ?_ GE345.out | refine below_set ?_ GE354.out) | exact HB.out)))⟩; clear hw; clear HO_319001; clear HO_319002; clear HO_320001; clear HO_320002; clear HO395; clear HO398; clear BK318; clear BK319; clear BK345; clear BK354; clear HB; have HO_319001 := n0_; have HO_319002 := n1_; have HO_320001 := n2_; have HO_320002 := n3_; have HO395 := n4_; have HO398 := n5_; have BK318 := n6_; have BK319 := n7_; have BK345 := n8_; have BK354 := n9_; have HB := n10_; clear n0_ n1_ n2_ n3_ n4_ n5_ n6_ n7_ n8_ n9_ n10_; have hcz165_0 : w164.cell? ⟨gb319, 0, none⟩ = some (.int .i64 x320000_5) := (blk_cell BK319.out 0).trans rfl; have hcz165_1 : w164.cell? ⟨gb319, 1, none⟩ = some (.slice Ao59 x320001_5.length co59) := (blk_cell BK319.out 1).trans rfl; have hcz165_2 : w164.cell? ⟨gb319, 2, none⟩ = some (.slice Ao60 x320002_5.length co60) := (blk_cell BK319.out 2).trans rfl; have hfz165_0 := blk_frozen BK319.out 0; have hfz165_1 := blk_frozen BK319.out 1; have hfz165_2 := blk_frozen BK319.out 2) | ((with_reducible refine gate_callee (f := 20) rfl ?_); refine goesL_ (some 159) rfl rfl Try.func20 (by kernel_rfl) rfl #[.agg #[.int .i64 x320000_5, .slice Ao59 x320001_5.length co59, .slice Ao60 x320002_5.length co60], .int .i64 x2_5] rfl (by (try simp only [List.map_toArray, List.map_cons, List.map_nil]); first | done | rfl | (simp only [List.length_drop, List.length_take]; rfl)) ?_; (with_reducible refine (customsref33_Repeat.calls kj121 x320000_5 _ _ x320001_5 (fun k_ => (((P0_1_ k_ ∨ P0_2_ k_) ∨ w.heap.size ≤ k_) ∧ (some k_ ≠ (.slice Ao162 t393.length co162 : Value).ownBlock ∧ (some k_ ≠ (.slice Ao163 t396.length co163 : Value).ownBlock ∧ (k_ ≠ gb318 ∧ (k_ ≠ gb319 ∧ (k_ ≠ gb345 ∧ k_ ≠ gb354))))))) _ _ x320002_5 x2_5 t400 t401 t404 t407 _ ?side1 ?side2 ?side3 A152.out).mono ?_); (case side1 => exact pC (Kd.V_reads' HO_320001.out).2.2); (case side2 => exact (Kd.V_reads' HO_320001.out).2.1); (case side3 => exact HO_320002.out); rintro e w166 ⟨v402, v405, rfl, ho0, ho1, hb⟩; refine ⟨_, rfl, ?_⟩; have n0_ := Aside0.mk (Kd.V_elder' (by exact pV HO_319001.out) (Kd.R_base ho0) hb); have n1_ := Aside0.mk (Kd.V_elder' (by exact pV HO_319002.out) (Kd.R_base ho0) hb); have n2_ := Aside0.mk (Kd.V_elder' (by exact pV HO_320001.out) (Kd.R_base ho0) hb); have n3_ := Aside0.mk (Kd.V_elder' (by exact pV HO_320002.out) (Kd.R_base ho0) hb); have n4_ := Aside0.mk (Kd.R_elder' (by exact pR HO395.out) (Kd.R_base ho0) hb); have n5_ := Aside0.mk (Kd.R_elder' (by exact pR HO398.out) (Kd.R_base ho0) hb); have n6_ := Aside0.mk (Kd.R_lower (Kd.R_new' (Kd.R_new' (Kd.R_newM (M := fun k_ => (w.heap.size ≤ k_)) (Kd.R_mono (ok' := fun k_ => True) ho0 (fun _ hk_ => trivial)) (below_size (by exact pB HB.out)) (fun k_ h_ => h_)) (Kd.R_lt (by exact pR HO395.out))) (Kd.R_lt (by exact pR HO398.out))) (below_size (by exact pB HB.out))); have n7_ := Aside0.mk (Kd.V_lower (Kd.V_mono (ok' := fun k_ => ((P0_1_ k_ ∨ P0_2_ k_) ∨ w.heap.size ≤ k_) ∧ some k_ ≠ (v402 : Value).ownBlock ∧ some k_ ≠ (.slice Ao162 t393.length co162 : Value).ownBlock ∧ some k_ ≠ (.slice Ao163 t396.length co163 : Value).ownBlock ∧ k_ ≠ gb318 ∧ k_ ≠ gb319 ∧ k_ ≠ gb345 ∧ k_ ≠ gb354) ho1 (fun k_ hk_ => ⟨Or.elim hk_.1 (fun hs_ => hs_.1) (fun hn_ => (.inr (Nat.le_trans (below_size (by exact pB HB.out)) hn_))), hk_.2, Or.elim hk_.1 (fun hs_ => hs_.2.1) (fun hn_ => (Kd.fresh' (Kd.R_lt (by exact pR HO395.out)) k_ hn_)), Or.elim hk_.1 (fun hs_ => hs_.2.2.1) (fun hn_ => (Kd.fresh' (Kd.R_lt (by exact pR HO398.out)) k_ hn_)), Or.elim hk_.1 (fun hs_ => hs_.2.2.2.1) (fun hn_ => (Kd.freshB (g := gb318) (o := .cells #[.int .i64 a0_0, .slice A0_1 l0_1.length c0_1, .slice A0_2 l0_2.length c0_2] 24 (0, 0)) (by exact pK BK318.out) k_ hn_)), Or.elim hk_.1 (fun hs_ => hs_.2.2.2.2.1) (fun hn_ => (Kd.freshB (g := gb319) (o := .cells #[.int .i64 x320000_5, .slice Ao59 x320001_5.length co59, .slice Ao60 x320002_5.length co60] 24 (0, 0)) (by exact pK BK319.out) k_ hn_)), Or.elim hk_.1 (fun hs_ => hs_.2.2.2.2.2.1) (fun hn_ => (Kd.freshB (g := gb345) (o := .cells #[.int .i64 t392, .slice Ao162 t393.length co162, .slice Ao163 t396.length co163] 24 (0, 0)) (by exact pK BK345.out) k_ hn_)), Or.elim hk_.1 (fun hs_ => hs_.2.2.2.2.2.2) (fun hn_ => (Kd.freshB (g := gb354) (o := .cells #[.int .i64 t383, .slice Ao138 t384.length co138, .slice Ao139 t387.length co139] 24 (0, 0)) (by exact pK BK354.out) k_ hn_))⟩)) (below_size (by exact pB HB.out))); have n8_ := Aside0.mk (blk_below (g := gb318) (o := .cells #[.int .i64 a0_0, .slice A0_1 l0_1.length c0_1, .slice A0_2 l0_2.length c0_2] 24 (0, 0)) (by exact pK BK318.out) hb); have n9_ := Aside0.mk (blk_below (g := gb319) (o := .cells #[.int .i64 x320000_5, .slice Ao59 x320001_5.length co59, .slice Ao60 x320002_5.length co60] 24 (0, 0)) (by exact pK BK319.out) hb); have n10_ := Aside0.mk (blk_below (g := gb345) (o := .cells #[.int .i64 t392, .slice Ao162 t393.length co162, .slice Ao163 t396.length co163] 24 (0, 0)) (by exact pK BK345.out) hb); have n11_ := Aside0.mk (blk_below (g := gb354) (o := .cells #[.int .i64 t383, .slice Ao138 t384.length co138, .slice Ao139 t387.length co139] 24 (0, 0)) (by exact pK BK354.out) hb); have n12_ := Aside0.mk (below_step (by exact pB HB.out) hb); clear HO_319001; clear HO_319002; clear HO_320001; clear HO_320002; clear HO395; clear HO398; clear BK318; clear BK319; clear BK345; clear BK354; clear HB; have HO_319001 := n0_; have HO_319002 := n1_; have HO_320001 := n2_; have HO_320002 := n3_; have HO395 := n4_; have HO398 := n5_; have HO403 := n6_; have HO406 := n7_; have BK318 := n8_; have BK319 := n9_; have BK345 := n10_; have BK354 := n11_; have HB := n12_; clear n0_ n1_ n2_ n3_ n4_ n5_ n6_ n7_ n8_ n9_ n10_ n11_ n12_; (try clear hb); (try clear hb2); (try clear hk); (try clear hi); (try clear ho0); (try clear ho1); have hnb167 := NB354_318.out; have hnc167 := NB318_354.out; have hcz168_0 : w166.cell? ⟨gb354, 0, none⟩ = some (.int .i64 t383) := (blk_cell BK354.out 0).trans rfl; have hcz168_1 : w166.cell? ⟨gb354, 1, none⟩ = some (.slice Ao138 t384.length co138) := (blk_cell BK354.out 1).trans rfl; have hcz168_2 : w166.cell? ⟨gb354, 2, none⟩ = some (.slice Ao139 t387.length co139) := (blk_cell BK354.out 2).trans rfl; have hfz168_0 := blk_frozen BK354.out 0; have hfz168_1 := blk_frozen BK354.out 1; have hfz168_2 := blk_frozen BK354.out 2; obtain ⟨Ao169, co169, eo169⟩ := Kd.R_slice HO403.out; subst eo169; obtain ⟨Ao170, co170, eo170⟩ := Kd.V_slice HO406.out; subst eo170))
        (try simp only [Act.put, List.setIfInBounds_toArray, List.set_cons_zero, List.set_cons_succ])
        go_cut [170] (fun v170 wc => ∃ (kq : Nat) (x170_152 : Bool), v170 = .bool x170_152 ∧ Aside0 (customslaw38_ChannelSteps.j7 kq x1_5 x2_5 x170_152 x320000_5 x320001_5 x320002_5 = some true) ∧ Aside0 (kq ≤ kj121) ∧ Aside0 (Kd.V (Kd.int .i64) 3 wc w.heap.size (fun k_ => ((P0_1_ k_ ∨ P0_2_ k_) ∨ w.heap.size ≤ k_) ∧ some k_ ≠ ((.slice Ao162 t393.length co162) : Value).ownBlock ∧ some k_ ≠ ((.slice Ao163 t396.length co163) : Value).ownBlock ∧ some k_ ≠ ((.slice Ao169 t401.length co169) : Value).ownBlock ∧ k_ ≠ gb318 ∧ k_ ≠ gb319 ∧ k_ ≠ gb345 ∧ k_ ≠ gb354) (.slice A0_1 l0_1.length c0_1) l0_1) ∧ Aside0 (Kd.V (Kd.int .i64) 3 wc w.heap.size (fun k_ => ((P0_1_ k_ ∨ P0_2_ k_) ∨ w.heap.size ≤ k_) ∧ some k_ ≠ ((.slice Ao162 t393.length co162) : Value).ownBlock ∧ some k_ ≠ ((.slice Ao163 t396.length co163) : Value).ownBlock ∧ some k_ ≠ ((.slice Ao169 t401.length co169) : Value).ownBlock ∧ k_ ≠ gb318 ∧ k_ ≠ gb319 ∧ k_ ≠ gb345 ∧ k_ ≠ gb354) (.slice A0_2 l0_2.length c0_2) l0_2) ∧ Aside0 (Kd.V (Kd.int .i64) 3 wc w.heap.size (fun k_ => ((P0_1_ k_ ∨ P0_2_ k_) ∨ w.heap.size ≤ k_) ∧ some k_ ≠ ((.slice Ao162 t393.length co162) : Value).ownBlock ∧ some k_ ≠ ((.slice Ao163 t396.length co163) : Value).ownBlock ∧ some k_ ≠ ((.slice Ao169 t401.length co169) : Value).ownBlock ∧ k_ ≠ gb318 ∧ k_ ≠ gb319 ∧ k_ ≠ gb345 ∧ k_ ≠ gb354) (.slice Ao59 x320001_5.length co59) x320001_5) ∧ Aside0 (Kd.V (Kd.int .i64) 3 wc w.heap.size (fun k_ => ((P0_1_ k_ ∨ P0_2_ k_) ∨ w.heap.size ≤ k_) ∧ some k_ ≠ ((.slice Ao162 t393.length co162) : Value).ownBlock ∧ some k_ ≠ ((.slice Ao163 t396.length co163) : Value).ownBlock ∧ some k_ ≠ ((.slice Ao169 t401.length co169) : Value).ownBlock ∧ k_ ≠ gb318 ∧ k_ ≠ gb319 ∧ k_ ≠ gb345 ∧ k_ ≠ gb354) (.slice Ao60 x320002_5.length co60) x320002_5) ∧ Aside0 (Kd.R (Kd.int .i64) 3 wc w.heap.size (fun k_ => (w.heap.size ≤ k_) ∧ some k_ ≠ ((.slice Ao163 t396.length co163) : Value).ownBlock ∧ some k_ ≠ ((.slice Ao169 t401.length co169) : Value).ownBlock) (.slice Ao162 t393.length co162) t393) ∧ Aside0 (Kd.R (Kd.int .i64) 3 wc w.heap.size (fun k_ => (w.heap.size ≤ k_) ∧ some k_ ≠ ((.slice Ao162 t393.length co162) : Value).ownBlock ∧ some k_ ≠ ((.slice Ao169 t401.length co169) : Value).ownBlock) (.slice Ao163 t396.length co163) t396) ∧ Aside0 (Kd.R (Kd.int .i64) 3 wc w.heap.size (fun k_ => (w.heap.size ≤ k_) ∧ some k_ ≠ ((.slice Ao162 t393.length co162) : Value).ownBlock ∧ some k_ ≠ ((.slice Ao163 t396.length co163) : Value).ownBlock) (.slice Ao169 t401.length co169) t401) ∧ Aside0 (Kd.V (Kd.int .i64) 3 wc w.heap.size (fun k_ => ((P0_1_ k_ ∨ P0_2_ k_) ∨ w.heap.size ≤ k_) ∧ some k_ ≠ ((.slice Ao162 t393.length co162) : Value).ownBlock ∧ some k_ ≠ ((.slice Ao163 t396.length co163) : Value).ownBlock ∧ some k_ ≠ ((.slice Ao169 t401.length co169) : Value).ownBlock ∧ k_ ≠ gb318 ∧ k_ ≠ gb319 ∧ k_ ≠ gb345 ∧ k_ ≠ gb354) (.slice Ao170 t404.length co170) t404) ∧ Aside0 (wc.heap[gb318]? = some (.cells #[.int .i64 a0_0, (.slice A0_1 l0_1.length c0_1), (.slice A0_2 l0_2.length c0_2)] 24 (0, 0))) ∧ Aside0 (wc.heap[gb319]? = some (.cells #[.int .i64 x320000_5, (.slice Ao59 x320001_5.length co59), (.slice Ao60 x320002_5.length co60)] 24 (0, 0))) ∧ Aside0 (wc.heap[gb345]? = some (.cells #[.int .i64 t392, (.slice Ao162 t393.length co162), (.slice Ao163 t396.length co163)] 24 (0, 0))) ∧ Aside0 (wc.heap[gb354]? = some (.cells #[.int .i64 t400, (.slice Ao169 t401.length co169), (.slice Ao170 t404.length co170)] 24 (0, 0))) ∧ Aside0 (Below w.heap.size w wc))
        case first => as_aux_lemma =>
          have H := HC153.out
          clear HC153
          by_cases c171 : t399 = t407
          · rw [if_pos c171] at H
            have c171b0 : (t399 == t407) = true := beq_iff_eq.mpr c171
            have c171b1 : (t399 != t407) = false := bne_eq_false_iff_eq.mpr c171
            clear c171
            (first | rw [c171b0] | (simp only [i64_w, i32_w]; rw [c171b0]) | skip)
            replace H := Option.bind_eq_some_iff.mp H
            obtain ⟨t408, A1720, H⟩ := H
            replace H : (customslaw38_ChannelSteps.j7 kj121 x1_5 x2_5 (!t408) x320000_5 x320001_5 x320002_5) = some true := H
            have A172 := Aside0.mk A1720
            clear A1720
            have H' := Aside0.mk H
            clear H
            have hnb173 := NB345_318.out
            have hnc173 := NB318_345.out
            have hnb174 := NB345_319.out
            have hnc174 := NB319_345.out
            have hnb175 := NB345_354.out
            have hnc175 := NB354_345.out
            have hcz176_0 : w166.cell? ⟨gb345, 0, none⟩ = some (.int .i64 t392) := (blk_cell BK345.out 0).trans rfl
            have hcz176_1 : w166.cell? ⟨gb345, 1, none⟩ = some (.slice Ao162 t393.length co162) := (blk_cell BK345.out 1).trans rfl
            have hcz176_2 : w166.cell? ⟨gb345, 2, none⟩ = some (.slice Ao163 t396.length co163) := (blk_cell BK345.out 2).trans rfl
            have hfz176_0 := blk_frozen BK345.out 0
            have hfz176_1 := blk_frozen BK345.out 1
            have hfz176_2 := blk_frozen BK345.out 2
            have hnb177 := NB354_318.out
            have hnc177 := NB318_354.out
            have hnb178 := NB354_319.out
            have hnc178 := NB319_354.out
            have hcz179_0 : w166.cell? ⟨gb354, 0, none⟩ = some (.int .i64 t383) := (blk_cell BK354.out 0).trans rfl
            have hcz179_1 : w166.cell? ⟨gb354, 1, none⟩ = some (.slice Ao138 t384.length co138) := (blk_cell BK354.out 1).trans rfl
            have hcz179_2 : w166.cell? ⟨gb354, 2, none⟩ = some (.slice Ao139 t387.length co139) := (blk_cell BK354.out 2).trans rfl
            have hfz179_0 := blk_frozen BK354.out 0
            have hfz179_1 := blk_frozen BK354.out 1
            have hfz179_2 := blk_frozen BK354.out 2
            go_wp2_with (first | (go_at_call 10; (with_reducible refine (customsref33_SameLine.calls kj121 t392 _ _ t393 _ _ t396 t400 _ _ t401 _ _ t404 t408 _ ?side1 ?side2 ?side3 ?side4 ?side5 ?side6 ?side7 ?side8 A172.out).mono ?_); (case side1 => refine (Kd.R_reads' (e := 3) (base := w.heap.size) (ok := fun k_ => (((w.heap.size ≤ k_) ∧ some k_ ≠ (.slice Ao163 t396.length co163 : Value).ownBlock) ∧ some k_ ≠ (.slice Ao169 t401.length co169 : Value).ownBlock)) (n := t393.length) (c := co162) ?_).2.2; exact (by (with_reducible repeat (first | apply Kd.R_alloc | apply Kd.R_drewN | apply Kd.R_drew)); exact (Kd.R_mono (Kd.R_far (p := ⟨gb354, 2, none⟩) (Kd.R_far (p := ⟨gb354, 1, none⟩) (Kd.R_far (p := ⟨gb354, 0, none⟩) (Kd.R_types HO395.out BK354.out (by decide)) (fun _ hk => hk.2) (.int .i64 t400)) (fun _ hk => hk.2) (.slice Ao169 t401.length co169)) (fun _ hk => hk.2) (.slice Ao170 t404.length co170)) (fun _ h_ => h_.1)))); (case side2 => exact (Kd.R_reads' HO395.out).2.1); (case side3 => refine (Kd.R_reads' (e := 3) (base := w.heap.size) (ok := fun k_ => (((w.heap.size ≤ k_) ∧ some k_ ≠ (.slice Ao162 t393.length co162 : Value).ownBlock) ∧ some k_ ≠ (.slice Ao169 t401.length co169 : Value).ownBlock)) (n := t396.length) (c := co163) ?_).2.2; exact (by (with_reducible repeat (first | apply Kd.R_alloc | apply Kd.R_drewN | apply Kd.R_drew)); exact (Kd.R_mono (Kd.R_far (p := ⟨gb354, 2, none⟩) (Kd.R_far (p := ⟨gb354, 1, none⟩) (Kd.R_far (p := ⟨gb354, 0, none⟩) (Kd.R_types HO398.out BK354.out (by decide)) (fun _ hk => hk.2) (.int .i64 t400)) (fun _ hk => hk.2) (.slice Ao169 t401.length co169)) (fun _ hk => hk.2) (.slice Ao170 t404.length co170)) (fun _ h_ => h_.1)))); (case side4 => exact (Kd.R_reads' HO398.out).2.1); (case side5 => refine (Kd.R_reads' (e := 3) (base := w.heap.size) (ok := fun k_ => ((((w.heap.size ≤ k_) ∧ True) ∧ some k_ ≠ (.slice Ao162 t393.length co162 : Value).ownBlock) ∧ some k_ ≠ (.slice Ao163 t396.length co163 : Value).ownBlock)) (n := t401.length) (c := co169) ?_).2.2; exact (by (with_reducible repeat (first | apply Kd.R_alloc | apply Kd.R_drewN | apply Kd.R_drew)); exact (Kd.R_mono (Kd.R_far (p := ⟨gb354, 2, none⟩) (Kd.R_far (p := ⟨gb354, 1, none⟩) (Kd.R_far (p := ⟨gb354, 0, none⟩) (Kd.R_types HO403.out BK354.out (by decide)) (fun _ hk => hk.2) (.int .i64 t400)) (fun _ hk => hk.2) (.slice Ao169 t401.length co169)) (fun _ hk => hk.2) (.slice Ao170 t404.length co170)) (fun _ h_ => h_.1)))); (case side6 => exact (Kd.R_reads' HO403.out).2.1); (case side7 => refine (Kd.V_reads' (e := 3) (base := w.heap.size) (ok := fun k_ => (((P0_1_ k_ ∨ P0_2_ k_) ∨ w.heap.size ≤ k_) ∧ (some k_ ≠ (.slice Ao169 t401.length co169 : Value).ownBlock ∧ (some k_ ≠ (.slice Ao162 t393.length co162 : Value).ownBlock ∧ (some k_ ≠ (.slice Ao163 t396.length co163 : Value).ownBlock ∧ (k_ ≠ gb318 ∧ (k_ ≠ gb319 ∧ (k_ ≠ gb345 ∧ k_ ≠ gb354)))))))) (n := t404.length) (c := co170) ?_).2.2; exact (by (with_reducible repeat (first | apply Kd.V_alloc | apply Kd.V_drewN | apply Kd.V_drew)); exact (Kd.V_mono (Kd.V_far (p := ⟨gb354, 2, none⟩) (Kd.V_far (p := ⟨gb354, 1, none⟩) (Kd.V_far (p := ⟨gb354, 0, none⟩) (Kd.V_mono HO406.out (fun k_ hk => (⟨hk, hk.2.2.2.2.2.2.2⟩ : _ ∧ k_ ≠ gb354))) (fun _ hk => hk.2) (.int .i64 t400)) (fun _ hk => hk.2) (.slice Ao169 t401.length co169)) (fun _ hk => hk.2) (.slice Ao170 t404.length co170)) (fun _ h_ => h_.1)))); (case side8 => exact (Kd.V_reads' HO406.out).2.1); rintro e w180 ⟨rfl, hb⟩; have n0_ := Aside0.mk (Kd.V_below (by (with_reducible repeat (first | apply Kd.V_alloc | apply Kd.V_drewN | apply Kd.V_drew)); exact (Kd.V_mono (Kd.V_far (p := ⟨gb354, 2, none⟩) (Kd.V_far (p := ⟨gb354, 1, none⟩) (Kd.V_far (p := ⟨gb354, 0, none⟩) (Kd.V_mono HO_319001.out (fun k_ hk => (⟨hk, hk.1.2.2.2.2.2.2⟩ : _ ∧ k_ ≠ gb354))) (fun _ hk => hk.2) (.int .i64 t400)) (fun _ hk => hk.2) (.slice Ao169 t401.length co169)) (fun _ hk => hk.2) (.slice Ao170 t404.length co170)) (fun _ h_ => h_.1))) hb); have n1_ := Aside0.mk (Kd.V_below (by (with_reducible repeat (first | apply Kd.V_alloc | apply Kd.V_drewN | apply Kd.V_drew)); exact (Kd.V_mono (Kd.V_far (p := ⟨gb354, 2, none⟩) (Kd.V_far (p := ⟨gb354, 1, none⟩) (Kd.V_far (p := ⟨gb354, 0, none⟩) (Kd.V_mono HO_319002.out (fun k_ hk => (⟨hk, hk.1.2.2.2.2.2.2⟩ : _ ∧ k_ ≠ gb354))) (fun _ hk => hk.2) (.int .i64 t400)) (fun _ hk => hk.2) (.slice Ao169 t401.length co169)) (fun _ hk => hk.2) (.slice Ao170 t404.length co170)) (fun _ h_ => h_.1))) hb); have n2_ := Aside0.mk (Kd.V_below (by (with_reducible repeat (first | apply Kd.V_alloc | apply Kd.V_drewN | apply Kd.V_drew)); exact (Kd.V_mono (Kd.V_far (p := ⟨gb354, 2, none⟩) (Kd.V_far (p := ⟨gb354, 1, none⟩) (Kd.V_far (p := ⟨gb354, 0, none⟩) (Kd.V_mono HO_320001.out (fun k_ hk => (⟨hk, hk.1.2.2.2.2.2.2⟩ : _ ∧ k_ ≠ gb354))) (fun _ hk => hk.2) (.int .i64 t400)) (fun _ hk => hk.2) (.slice Ao169 t401.length co169)) (fun _ hk => hk.2) (.slice Ao170 t404.length co170)) (fun _ h_ => h_.1))) hb); have n3_ := Aside0.mk (Kd.V_below (by (with_reducible repeat (first | apply Kd.V_alloc | apply Kd.V_drewN | apply Kd.V_drew)); exact (Kd.V_mono (Kd.V_far (p := ⟨gb354, 2, none⟩) (Kd.V_far (p := ⟨gb354, 1, none⟩) (Kd.V_far (p := ⟨gb354, 0, none⟩) (Kd.V_mono HO_320002.out (fun k_ hk => (⟨hk, hk.1.2.2.2.2.2.2⟩ : _ ∧ k_ ≠ gb354))) (fun _ hk => hk.2) (.int .i64 t400)) (fun _ hk => hk.2) (.slice Ao169 t401.length co169)) (fun _ hk => hk.2) (.slice Ao170 t404.length co170)) (fun _ h_ => h_.1))) hb); have n4_ := Aside0.mk (Kd.R_below (by (with_reducible repeat (first | apply Kd.R_alloc | apply Kd.R_drewN | apply Kd.R_drew)); exact (Kd.R_mono (Kd.R_far (p := ⟨gb354, 2, none⟩) (Kd.R_far (p := ⟨gb354, 1, none⟩) (Kd.R_far (p := ⟨gb354, 0, none⟩) (Kd.R_types HO395.out BK354.out (by decide)) (fun _ hk => hk.2) (.int .i64 t400)) (fun _ hk => hk.2) (.slice Ao169 t401.length co169)) (fun _ hk => hk.2) (.slice Ao170 t404.length co170)) (fun _ h_ => h_.1))) hb); have n5_ := Aside0.mk (Kd.R_below (by (with_reducible repeat (first | apply Kd.R_alloc | apply Kd.R_drewN | apply Kd.R_drew)); exact (Kd.R_mono (Kd.R_far (p := ⟨gb354, 2, none⟩) (Kd.R_far (p := ⟨gb354, 1, none⟩) (Kd.R_far (p := ⟨gb354, 0, none⟩) (Kd.R_types HO398.out BK354.out (by decide)) (fun _ hk => hk.2) (.int .i64 t400)) (fun _ hk => hk.2) (.slice Ao169 t401.length co169)) (fun _ hk => hk.2) (.slice Ao170 t404.length co170)) (fun _ h_ => h_.1))) hb); have n6_ := Aside0.mk (Kd.R_below (by (with_reducible repeat (first | apply Kd.R_alloc | apply Kd.R_drewN | apply Kd.R_drew)); exact (Kd.R_mono (Kd.R_far (p := ⟨gb354, 2, none⟩) (Kd.R_far (p := ⟨gb354, 1, none⟩) (Kd.R_far (p := ⟨gb354, 0, none⟩) (Kd.R_types HO403.out BK354.out (by decide)) (fun _ hk => hk.2) (.int .i64 t400)) (fun _ hk => hk.2) (.slice Ao169 t401.length co169)) (fun _ hk => hk.2) (.slice Ao170 t404.length co170)) (fun _ h_ => h_.1))) hb); have n7_ := Aside0.mk (Kd.V_below (by (with_reducible repeat (first | apply Kd.V_alloc | apply Kd.V_drewN | apply Kd.V_drew)); exact (Kd.V_mono (Kd.V_far (p := ⟨gb354, 2, none⟩) (Kd.V_far (p := ⟨gb354, 1, none⟩) (Kd.V_far (p := ⟨gb354, 0, none⟩) (Kd.V_mono HO406.out (fun k_ hk => (⟨hk, hk.2.2.2.2.2.2.2⟩ : _ ∧ k_ ≠ gb354))) (fun _ hk => hk.2) (.int .i64 t400)) (fun _ hk => hk.2) (.slice Ao169 t401.length co169)) (fun _ hk => hk.2) (.slice Ao170 t404.length co170)) (fun _ h_ => h_.1))) hb); have n8_ := Aside0.mk (blk_below (g := gb318) (o := .cells #[.int .i64 a0_0, .slice A0_1 l0_1.length c0_1, .slice A0_2 l0_2.length c0_2] 24 (0, 0)) (by (with_reducible repeat (first | refine blk_drewN ?_ _ | refine blk_drew ?_ | refine blk_alloc ?_ _)); refine blk_far ?_ NB318_354.out _; (with_reducible repeat (first | refine blk_drewN ?_ _ | refine blk_drew ?_ | refine blk_alloc ?_ _)); refine blk_far ?_ NB318_354.out _; (with_reducible repeat (first | refine blk_drewN ?_ _ | refine blk_drew ?_ | refine blk_alloc ?_ _)); refine blk_far ?_ NB318_354.out _; (with_reducible repeat (first | refine blk_drewN ?_ _ | refine blk_drew ?_ | refine blk_alloc ?_ _)); exact BK318.out) hb); have n9_ := Aside0.mk (blk_below (g := gb319) (o := .cells #[.int .i64 x320000_5, .slice Ao59 x320001_5.length co59, .slice Ao60 x320002_5.length co60] 24 (0, 0)) (by (with_reducible repeat (first | refine blk_drewN ?_ _ | refine blk_drew ?_ | refine blk_alloc ?_ _)); refine blk_far ?_ NB319_354.out _; (with_reducible repeat (first | refine blk_drewN ?_ _ | refine blk_drew ?_ | refine blk_alloc ?_ _)); refine blk_far ?_ NB319_354.out _; (with_reducible repeat (first | refine blk_drewN ?_ _ | refine blk_drew ?_ | refine blk_alloc ?_ _)); refine blk_far ?_ NB319_354.out _; (with_reducible repeat (first | refine blk_drewN ?_ _ | refine blk_drew ?_ | refine blk_alloc ?_ _)); exact BK319.out) hb); have n10_ := Aside0.mk (blk_below (g := gb345) (o := .cells #[.int .i64 t392, .slice Ao162 t393.length co162, .slice Ao163 t396.length co163] 24 (0, 0)) (by (with_reducible repeat (first | refine blk_drewN ?_ _ | refine blk_drew ?_ | refine blk_alloc ?_ _)); refine blk_far ?_ NB345_354.out _; (with_reducible repeat (first | refine blk_drewN ?_ _ | refine blk_drew ?_ | refine blk_alloc ?_ _)); refine blk_far ?_ NB345_354.out _; (with_reducible repeat (first | refine blk_drewN ?_ _ | refine blk_drew ?_ | refine blk_alloc ?_ _)); refine blk_far ?_ NB345_354.out _; (with_reducible repeat (first | refine blk_drewN ?_ _ | refine blk_drew ?_ | refine blk_alloc ?_ _)); exact BK345.out) hb); have n11_ := Aside0.mk (blk_below (g := gb354) (o := .cells #[.int .i64 t400, .slice Ao169 t401.length co169, .slice Ao170 t404.length co170] 24 (0, 0)) (by (with_reducible repeat (first | refine blk_drewN ?_ _ | refine blk_drew ?_ | refine blk_alloc ?_ _)); refine blk_put (cs := #[.int .i64 t400, .slice Ao169 t401.length co169, .slice Ao139 t387.length co139]) ?_ 2 _ rfl; (with_reducible repeat (first | refine blk_drewN ?_ _ | refine blk_drew ?_ | refine blk_alloc ?_ _)); refine blk_put (cs := #[.int .i64 t400, .slice Ao138 t384.length co138, .slice Ao139 t387.length co139]) ?_ 1 _ rfl; (with_reducible repeat (first | refine blk_drewN ?_ _ | refine blk_drew ?_ | refine blk_alloc ?_ _)); refine blk_put (cs := #[.int .i64 t383, .slice Ao138 t384.length co138, .slice Ao139 t387.length co139]) ?_ 0 _ rfl; (with_reducible repeat (first | refine blk_drewN ?_ _ | refine blk_drew ?_ | refine blk_alloc ?_ _)); exact BK354.out) hb); have n12_ := Aside0.mk (below_step (by repeat (first | (with_reducible first | exact HB.out | apply below_alloc | apply pw_below_drewN | apply below_drew1 | refine below_set ?_ GE318.out | refine below_set ?_ GE319.out | refine below_set ?_ GE345.out | refine below_set ?_ GE354.out) | exact HB.out)) hb); clear HO_319001; clear HO_319002; clear HO_320001; clear HO_320002; clear HO395; clear HO398; clear HO403; clear HO406; clear BK318; clear BK319; clear BK345; clear BK354; clear HB; have HO_319001 := n0_; have HO_319002 := n1_; have HO_320001 := n2_; have HO_320002 := n3_; have HO395 := n4_; have HO398 := n5_; have HO403 := n6_; have HO406 := n7_; have BK318 := n8_; have BK319 := n9_; have BK345 := n10_; have BK354 := n11_; have HB := n12_; clear n0_ n1_ n2_ n3_ n4_ n5_ n6_ n7_ n8_ n9_ n10_ n11_ n12_; (try clear hb); (try clear hb2); (try clear hk); (try clear hi)))
            go_meet
            case rel => exact ⟨_, (!t408), (by first | rfl | (simp; done) | (simp [*]; done)), H', ⟨by have := HJ5.out; have := HJ55.out; have := HJ90.out; have := HJ121.out; first | omega | exact Nat.le_refl _⟩, ⟨by exact pV (Kd.V_mono HO_319001.out (fun _ hk => ⟨hk.1.1, ⟨hk.1.2.1, ⟨hk.1.2.2.1, ⟨hk.2, ⟨hk.1.2.2.2.1, ⟨hk.1.2.2.2.2.1, ⟨hk.1.2.2.2.2.2.1, hk.1.2.2.2.2.2.2⟩⟩⟩⟩⟩⟩⟩))⟩, ⟨by exact pV (Kd.V_mono HO_319002.out (fun _ hk => ⟨hk.1.1, ⟨hk.1.2.1, ⟨hk.1.2.2.1, ⟨hk.2, ⟨hk.1.2.2.2.1, ⟨hk.1.2.2.2.2.1, ⟨hk.1.2.2.2.2.2.1, hk.1.2.2.2.2.2.2⟩⟩⟩⟩⟩⟩⟩))⟩, ⟨by exact pV (Kd.V_mono HO_320001.out (fun _ hk => ⟨hk.1.1, ⟨hk.1.2.1, ⟨hk.1.2.2.1, ⟨hk.2, ⟨hk.1.2.2.2.1, ⟨hk.1.2.2.2.2.1, ⟨hk.1.2.2.2.2.2.1, hk.1.2.2.2.2.2.2⟩⟩⟩⟩⟩⟩⟩))⟩, ⟨by exact pV (Kd.V_mono HO_320002.out (fun _ hk => ⟨hk.1.1, ⟨hk.1.2.1, ⟨hk.1.2.2.1, ⟨hk.2, ⟨hk.1.2.2.2.1, ⟨hk.1.2.2.2.2.1, ⟨hk.1.2.2.2.2.2.1, hk.1.2.2.2.2.2.2⟩⟩⟩⟩⟩⟩⟩))⟩, ⟨by exact pR (Kd.R_mono HO395.out (fun _ hk => ⟨hk.1.1, ⟨hk.1.2, hk.2⟩⟩))⟩, ⟨by exact pR (Kd.R_mono HO398.out (fun _ hk => ⟨hk.1.1, ⟨hk.1.2, hk.2⟩⟩))⟩, ⟨by exact pR (Kd.R_mono HO403.out (fun _ hk => ⟨hk.1.1.1, ⟨hk.1.2, hk.2⟩⟩))⟩, ⟨by exact pV (Kd.V_mono HO406.out (fun _ hk => ⟨hk.1, ⟨hk.2.2.1, ⟨hk.2.2.2.1, ⟨hk.2.1, ⟨hk.2.2.2.2.1, ⟨hk.2.2.2.2.2.1, ⟨hk.2.2.2.2.2.2.1, hk.2.2.2.2.2.2.2⟩⟩⟩⟩⟩⟩⟩))⟩, ⟨by exact pK BK318.out⟩, ⟨by exact pK BK319.out⟩, ⟨by exact pK BK345.out⟩, ⟨by exact pK BK354.out⟩, ⟨by exact pB HB.out⟩⟩
          · rw [if_neg c171] at H
            have c171b0 : (t399 == t407) = false := beq_eq_false_iff_ne.mpr c171
            have c171b1 : (t399 != t407) = true := bne_iff_ne.mpr c171
            (first | rw [c171b0] | (simp only [i64_w, i32_w]; rw [c171b0]) | skip)
            exact absurd H (by cases kj121 <;> simp [customslaw38_ChannelSteps.j7])
        case rest => as_aux_lemma =>
          clear HC153
          try clear c1; try clear c2; try clear p2; try clear c3; try clear p3; try clear q3; try clear hx3; try clear c4; try clear c5; try clear c6; try clear p6; try clear c7; try clear c8; try clear c9; try clear c10; try clear c11; try clear c12; try clear c13; try clear c14; try clear c15; try clear c16; try clear c17; try clear c18; try clear c18b0; try clear c19; try clear c19b0; try clear c20; try clear c20b0; try clear c22; try clear c23; try clear c29; try clear c31; try clear p32; try clear q32; try clear hx32; try clear c33; try clear c33b0; try clear c34; try clear c34b0; try clear c35; try clear c35b0; try clear c37; try clear c38; try clear c47; try clear c52; try clear c57; try clear c63; try clear c64; try clear p64; try clear c72; try clear c73; try clear c74; try clear c78; try clear c78b0; try clear c78b1; try clear c80; try clear c81; try clear c82; try clear c84; try clear c85; try clear c88; try clear c92; try clear c93; try clear c94; try clear c97; try clear c98; try clear c104; try clear c108; try clear c108b0; try clear c108b1; try clear c109; try clear c109b0; try clear c109b1; try clear c111; try clear c112; try clear c113; try clear c115; try clear c116; try clear c119; try clear c123; try clear c124; try clear c125; try clear c128; try clear c129; try clear c136; try clear c140; try clear c140b0; try clear c140b1; try clear c142; try clear c143; try clear c144; try clear c146; try clear c147; try clear c150; try clear c154; try clear c155; try clear c156; try clear c159; try clear c160; try clear c167; try clear c171; try clear c171b0; try clear c171b1; try clear c173; try clear c174; try clear c175; try clear c177; try clear c178; try clear hcz102_0; try clear hcz102_1; try clear hcz102_2; try clear hcz105_0; try clear hcz105_1; try clear hcz105_2; try clear hcz114_0; try clear hcz114_1; try clear hcz114_2; try clear hcz117_0; try clear hcz117_1; try clear hcz117_2
          try clear hcz11_0; try clear hcz11_1; try clear hcz11_2; try clear hcz126_0; try clear hcz126_1; try clear hcz126_2; try clear hcz130_0; try clear hcz130_1; try clear hcz130_2; try clear hcz134_0; try clear hcz134_1; try clear hcz134_2; try clear hcz137_0; try clear hcz137_1; try clear hcz137_2; try clear hcz145_0; try clear hcz145_1; try clear hcz145_2; try clear hcz148_0; try clear hcz148_1; try clear hcz148_2; try clear hcz157_0; try clear hcz157_1; try clear hcz157_2; try clear hcz161_0; try clear hcz161_1; try clear hcz161_2; try clear hcz165_0; try clear hcz165_1; try clear hcz165_2; try clear hcz168_0; try clear hcz168_1; try clear hcz168_2; try clear hcz16_0; try clear hcz16_1; try clear hcz16_2; try clear hcz176_0; try clear hcz176_1; try clear hcz176_2; try clear hcz179_0; try clear hcz179_1; try clear hcz179_2; try clear hcz17_0; try clear hcz17_1; try clear hcz17_2; try clear hcz24_0; try clear hcz24_1; try clear hcz24_2; try clear hcz30_0; try clear hcz30_1; try clear hcz30_2; try clear hcz32_0; try clear hcz32_1; try clear hcz32_2; try clear hcz39_0; try clear hcz39_1; try clear hcz39_2; try clear hcz48_0; try clear hcz48_1; try clear hcz48_2; try clear hcz53_0; try clear hcz53_1; try clear hcz53_2; try clear hcz58_0; try clear hcz58_1; try clear hcz58_2; try clear hcz65_0; try clear hcz65_1; try clear hcz65_2; try clear hcz69_0; try clear hcz69_1; try clear hcz69_2; try clear hcz75_0; try clear hcz75_1; try clear hcz75_2; try clear hcz83_0; try clear hcz83_1; try clear hcz83_2; try clear hcz86_0; try clear hcz86_1; try clear hcz86_2; try clear hcz8_0; try clear hcz8_1; try clear hcz8_2; try clear hcz95_0; try clear hcz95_1; try clear hcz95_2; try clear hcz99_0; try clear hcz99_1; try clear hcz99_2; try clear hfz102_0; try clear hfz102_1; try clear hfz102_2; try clear hfz105_0; try clear hfz105_1; try clear hfz105_2; try clear hfz114_0; try clear hfz114_1; try clear hfz114_2; try clear hfz117_0; try clear hfz117_1; try clear hfz117_2; try clear hfz11_0; try clear hfz11_1; try clear hfz11_2; try clear hfz126_0; try clear hfz126_1; try clear hfz126_2; try clear hfz130_0; try clear hfz130_1; try clear hfz130_2; try clear hfz134_0; try clear hfz134_1; try clear hfz134_2; try clear hfz137_0; try clear hfz137_1; try clear hfz137_2; try clear hfz145_0; try clear hfz145_1; try clear hfz145_2
          try clear hfz148_0; try clear hfz148_1; try clear hfz148_2; try clear hfz157_0; try clear hfz157_1; try clear hfz157_2; try clear hfz161_0; try clear hfz161_1; try clear hfz161_2; try clear hfz165_0; try clear hfz165_1; try clear hfz165_2; try clear hfz168_0; try clear hfz168_1; try clear hfz168_2; try clear hfz16_0; try clear hfz16_1; try clear hfz16_2; try clear hfz176_0; try clear hfz176_1; try clear hfz176_2; try clear hfz179_0; try clear hfz179_1; try clear hfz179_2; try clear hfz17_0; try clear hfz17_1; try clear hfz17_2; try clear hfz24_0; try clear hfz24_1; try clear hfz24_2; try clear hfz30_0; try clear hfz30_1; try clear hfz30_2; try clear hfz32_0; try clear hfz32_1; try clear hfz32_2; try clear hfz39_0; try clear hfz39_1; try clear hfz39_2; try clear hfz48_0; try clear hfz48_1; try clear hfz48_2; try clear hfz53_0; try clear hfz53_1; try clear hfz53_2; try clear hfz58_0; try clear hfz58_1; try clear hfz58_2; try clear hfz65_0; try clear hfz65_1; try clear hfz65_2; try clear hfz69_0; try clear hfz69_1; try clear hfz69_2; try clear hfz75_0; try clear hfz75_1; try clear hfz75_2; try clear hfz83_0; try clear hfz83_1; try clear hfz83_2; try clear hfz86_0; try clear hfz86_1; try clear hfz86_2; try clear hfz8_0; try clear hfz8_1; try clear hfz8_2; try clear hfz95_0; try clear hfz95_1; try clear hfz95_2; try clear hfz99_0; try clear hfz99_1; try clear hfz99_2; try clear hx321_0; try clear hx326_0; try clear p2; try clear p3; try clear p32; try clear p321; try clear p326; try clear p6; try clear p64; try clear q3; try clear q32; try clear q321; try clear q326
          obtain ⟨kq, x170_152, rfl, HA, HJ152, HO_319001, HO_319002, HO_320001, HO_320002, HO_346001, HO_346002, HO_355001, HO_355002, BK318, BK319, BK345, BK354, HB⟩ := hcut
          cases kq with
          | zero => exact absurd HA.out (by simp [customslaw38_ChannelSteps.j7])
          | succ kj152 =>
            have H := HA.out
            clear HA
            simp only [customslaw38_ChannelSteps.j7] at H
            have c181 : ¬ (x170_152 = true) := by
              intro c181
              rw [if_pos c181] at H
              exact absurd (Option.some.inj H) (by simp)
            replace c181 := Bool.eq_false_iff.mpr c181
            subst c181
            have H1 : ((channel_Confirm.f x320000_5 x320001_5 x320002_5 x2_5).bind fun bt409 => ((customsref33_Confirm.f x320000_5 x320001_5 x320002_5 x2_5).bind fun bt417 => (if bt409.2.2.2 = bt417.2.2.2 then ((customsref33_SameLine.f kj152 bt409.1 bt409.2.1 bt409.2.2.1 bt417.1 bt417.2.1 bt417.2.2.1).bind fun t425 => (customslaw38_ChannelSteps.j8 kj152 x1_5 x2_5 (!t425) x320000_5 x320001_5 x320002_5)) else (customslaw38_ChannelSteps.j8 kj152 x1_5 x2_5 true x320000_5 x320001_5 x320002_5)))) = some true := by rw [if_neg (show ¬ (false = true) by decide)] at H; exact H
            clear H
            have H := H1
            clear H1
            replace H := Option.bind_eq_some_iff.mp H
            obtain ⟨⟨t409, t410, t413, t416⟩, A1820, H⟩ := H
            replace H : ((customsref33_Confirm.f x320000_5 x320001_5 x320002_5 x2_5).bind fun bt417 => (if t416 = bt417.2.2.2 then ((customsref33_SameLine.f kj152 t409 t410 t413 bt417.1 bt417.2.1 bt417.2.2.1).bind fun t425 => (customslaw38_ChannelSteps.j8 kj152 x1_5 x2_5 (!t425) x320000_5 x320001_5 x320002_5)) else (customslaw38_ChannelSteps.j8 kj152 x1_5 x2_5 true x320000_5 x320001_5 x320002_5))) = some true := H
            have A182 := Aside0.mk A1820
            clear A1820
            replace H := Option.bind_eq_some_iff.mp H
            obtain ⟨⟨t417, t418, t421, t424⟩, A1830, H⟩ := H
            replace H : (if t416 = t424 then ((customsref33_SameLine.f kj152 t409 t410 t413 t417 t418 t421).bind fun t425 => (customslaw38_ChannelSteps.j8 kj152 x1_5 x2_5 (!t425) x320000_5 x320001_5 x320002_5)) else (customslaw38_ChannelSteps.j8 kj152 x1_5 x2_5 true x320000_5 x320001_5 x320002_5)) = some true := H
            have A183 := Aside0.mk A1830
            clear A1830
            have HC184 := Aside0.mk H
            clear H
            have hnb185 := NB319_318.out
            have hnc185 := NB318_319.out
            have hnb186 := NB319_345.out
            have hnc186 := NB345_319.out
            have hnb187 := NB319_354.out
            have hnc187 := NB354_319.out
            have hcz188_0 : wc.cell? ⟨gb319, 0, none⟩ = some (.int .i64 x320000_5) := (blk_cell BK319.out 0).trans rfl
            have hcz188_1 : wc.cell? ⟨gb319, 1, none⟩ = some (.slice Ao59 x320001_5.length co59) := (blk_cell BK319.out 1).trans rfl
            have hcz188_2 : wc.cell? ⟨gb319, 2, none⟩ = some (.slice Ao60 x320002_5.length co60) := (blk_cell BK319.out 2).trans rfl
            have hfz188_0 := blk_frozen BK319.out 0
            have hfz188_1 := blk_frozen BK319.out 1
            have hfz188_2 := blk_frozen BK319.out 2
            go_upto_region 31 with (first | ((with_reducible refine gate_callee (f := 21) rfl ?_); refine goesL_ (some 174) rfl rfl Try.func21 (by kernel_rfl) rfl #[.agg #[.int .i64 x320000_5, .slice Ao59 x320001_5.length co59, .slice Ao60 x320002_5.length co60], .int .i64 x2_5] rfl (by (try simp only [List.map_toArray, List.map_cons, List.map_nil]); first | done | rfl | (simp only [List.length_drop, List.length_take]; rfl)) ?_; (with_reducible refine (channel_Confirm.calls x320000_5 _ _ x320001_5 _ _ x320002_5 x2_5 t409 t410 t413 t416 _ ?side1 ?side2 ?side3 ?side4 A182.out).mono ?_); (case side1 => exact pC (Kd.V_reads' HO_320001.out).2.2); (case side2 => exact (Kd.V_reads' HO_320001.out).2.1); (case side3 => exact pC (Kd.V_reads' HO_320002.out).2.2); (case side4 => exact (Kd.V_reads' HO_320002.out).2.1); rintro e w189 ⟨v411, v414, rfl, ho0, ho1, hb⟩; refine ⟨_, rfl, ?_⟩; have n0_ := Aside0.mk (Kd.V_mono (Kd.V_told (Kd.V_told (Kd.V_old (by exact pV HO_319001.out) hb) (Kd.R_base ho0)) (Kd.R_base ho1)) (fun _ h_ => h_.1)); have n1_ := Aside0.mk (Kd.V_mono (Kd.V_told (Kd.V_told (Kd.V_old (by exact pV HO_319002.out) hb) (Kd.R_base ho0)) (Kd.R_base ho1)) (fun _ h_ => h_.1)); have n2_ := Aside0.mk (Kd.V_mono (Kd.V_told (Kd.V_told (Kd.V_old (by exact pV HO_320001.out) hb) (Kd.R_base ho0)) (Kd.R_base ho1)) (fun _ h_ => h_.1)); have n3_ := Aside0.mk (Kd.V_mono (Kd.V_told (Kd.V_told (Kd.V_old (by exact pV HO_320002.out) hb) (Kd.R_base ho0)) (Kd.R_base ho1)) (fun _ h_ => h_.1)); have n4_ := Aside0.mk (Kd.R_lower (Kd.R_newM (M := fun k_ => (w.heap.size ≤ k_)) ho0 (below_size (by exact pB HB.out)) (fun k_ h_ => h_)) (below_size (by exact pB HB.out))); have n5_ := Aside0.mk (Kd.R_lower (Kd.R_newM (M := fun k_ => (w.heap.size ≤ k_)) ho1 (below_size (by exact pB HB.out)) (fun k_ h_ => h_)) (below_size (by exact pB HB.out))); have n6_ := Aside0.mk (blk_below (g := gb318) (o := .cells #[.int .i64 a0_0, .slice A0_1 l0_1.length c0_1, .slice A0_2 l0_2.length c0_2] 24 (0, 0)) (by exact pK BK318.out) hb); have n7_ := Aside0.mk (blk_below (g := gb319) (o := .cells #[.int .i64 x320000_5, .slice Ao59 x320001_5.length co59, .slice Ao60 x320002_5.length co60] 24 (0, 0)) (by exact pK BK319.out) hb); have n8_ := Aside0.mk (blk_below (g := gb345) (o := .cells #[.int .i64 t392, .slice Ao162 t393.length co162, .slice Ao163 t396.length co163] 24 (0, 0)) (by exact pK BK345.out) hb); have n9_ := Aside0.mk (blk_below (g := gb354) (o := .cells #[.int .i64 t400, .slice Ao169 t401.length co169, .slice Ao170 t404.length co170] 24 (0, 0)) (by exact pK BK354.out) hb); have n10_ := Aside0.mk (below_step (by exact pB HB.out) hb); clear HO_319001; clear HO_319002; clear HO_320001; clear HO_320002; clear BK318; clear BK319; clear BK345; clear BK354; clear HB; have HO_319001 := n0_; have HO_319002 := n1_; have HO_320001 := n2_; have HO_320002 := n3_; have HO412 := n4_; have HO415 := n5_; have BK318 := n6_; have BK319 := n7_; have BK345 := n8_; have BK354 := n9_; have HB := n10_; clear n0_ n1_ n2_ n3_ n4_ n5_ n6_ n7_ n8_ n9_ n10_; (try clear hb); (try clear hb2); (try clear hk); (try clear hi); (try clear ho0); (try clear ho1); have hnb190 := NB345_318.out; have hnc190 := NB318_345.out; have hnb191 := NB345_354.out; have hnc191 := NB354_345.out; have hcz192_0 : w189.cell? ⟨gb345, 0, none⟩ = some (.int .i64 t392) := (blk_cell BK345.out 0).trans rfl; have hcz192_1 : w189.cell? ⟨gb345, 1, none⟩ = some (.slice Ao162 t393.length co162) := (blk_cell BK345.out 1).trans rfl; have hcz192_2 : w189.cell? ⟨gb345, 2, none⟩ = some (.slice Ao163 t396.length co163) := (blk_cell BK345.out 2).trans rfl; have hfz192_0 := blk_frozen BK345.out 0; have hfz192_1 := blk_frozen BK345.out 1; have hfz192_2 := blk_frozen BK345.out 2; obtain ⟨Ao193, co193, eo193⟩ := Kd.R_slice HO412.out; subst eo193; obtain ⟨Ao194, co194, eo194⟩ := Kd.R_slice HO415.out; subst eo194) | ((with_reducible refine gate_store (t := 24) (p := 14) rfl ?_); refine store_event (t := 24) (p := 14) (v := ?vo_w195) (w1 := (((w189.setCell ⟨gb345, 0, none⟩ (.int .i64 t409)).setCell ⟨gb345, 1, none⟩ (.slice Ao193 t410.length co193)).setCell ⟨gb345, 2, none⟩ (.slice Ao194 t413.length co194))) ?hg ?ho ?hn ?hr ?_; (case ho => rfl); (case hg => rfl); (case hn => rfl); (case hr => first | (go_simp; done) | (go_simp; rfl)); intro w195 hw; have n0_ : Aside0 (Kd.V (Kd.int .i64) 3 w195 w.heap.size (fun k_ => ((P0_1_ k_ ∨ P0_2_ k_) ∨ w.heap.size ≤ k_) ∧ some k_ ≠ (.slice Ao193 t410.length co193 : Value).ownBlock ∧ some k_ ≠ (.slice Ao194 t413.length co194 : Value).ownBlock ∧ k_ ≠ gb318 ∧ k_ ≠ gb319 ∧ k_ ≠ gb345 ∧ k_ ≠ gb354) (.slice A0_1 l0_1.length c0_1) l0_1) := ⟨(by rw [hw]; exact (by (with_reducible repeat (first | apply Kd.V_alloc | apply Kd.V_drewN | apply Kd.V_drew)); exact Kd.V_mono (Kd.V_far (p := ⟨gb345, 2, none⟩) (Kd.V_far (p := ⟨gb345, 1, none⟩) (Kd.V_far (p := ⟨gb345, 0, none⟩) (Kd.V_mono HO_319001.out (fun k_ hk => (⟨hk, hk.1.1.2.2.2.2.2.2.1⟩ : _ ∧ k_ ≠ gb345))) (fun _ hk => hk.2) (.int .i64 t409)) (fun _ hk => hk.2) (.slice Ao193 t410.length co193)) (fun _ hk => hk.2) (.slice Ao194 t413.length co194)) (fun _ hk => ⟨hk.1.1.1.1, ⟨hk.1.1.2, ⟨hk.1.2, ⟨hk.1.1.1.2.2.2.2.1, ⟨hk.1.1.1.2.2.2.2.2.1, ⟨hk.1.1.1.2.2.2.2.2.2.1, hk.1.1.1.2.2.2.2.2.2.2⟩⟩⟩⟩⟩⟩)))⟩; have n1_ : Aside0 (Kd.V (Kd.int .i64) 3 w195 w.heap.size (fun k_ => ((P0_1_ k_ ∨ P0_2_ k_) ∨ w.heap.size ≤ k_) ∧ some k_ ≠ (.slice Ao193 t410.length co193 : Value).ownBlock ∧ some k_ ≠ (.slice Ao194 t413.length co194 : Value).ownBlock ∧ k_ ≠ gb318 ∧ k_ ≠ gb319 ∧ k_ ≠ gb345 ∧ k_ ≠ gb354) (.slice A0_2 l0_2.length c0_2) l0_2) := ⟨(by rw [hw]; exact (by (with_reducible repeat (first | apply Kd.V_alloc | apply Kd.V_drewN | apply Kd.V_drew)); exact Kd.V_mono (Kd.V_far (p := ⟨gb345, 2, none⟩) (Kd.V_far (p := ⟨gb345, 1, none⟩) (Kd.V_far (p := ⟨gb345, 0, none⟩) (Kd.V_mono HO_319002.out (fun k_ hk => (⟨hk, hk.1.1.2.2.2.2.2.2.1⟩ : _ ∧ k_ ≠ gb345))) (fun _ hk => hk.2) (.int .i64 t409)) (fun _ hk => hk.2) (.slice Ao193 t410.length co193)) (fun _ hk => hk.2) (.slice Ao194 t413.length co194)) (fun _ hk => ⟨hk.1.1.1.1, ⟨hk.1.1.2, ⟨hk.1.2, ⟨hk.1.1.1.2.2.2.2.1, ⟨hk.1.1.1.2.2.2.2.2.1, ⟨hk.1.1.1.2.2.2.2.2.2.1, hk.1.1.1.2.2.2.2.2.2.2⟩⟩⟩⟩⟩⟩)))⟩; have n2_ : Aside0 (Kd.V (Kd.int .i64) 3 w195 w.heap.size (fun k_ => ((P0_1_ k_ ∨ P0_2_ k_) ∨ w.heap.size ≤ k_) ∧ some k_ ≠ (.slice Ao193 t410.length co193 : Value).ownBlock ∧ some k_ ≠ (.slice Ao194 t413.length co194 : Value).ownBlock ∧ k_ ≠ gb318 ∧ k_ ≠ gb319 ∧ k_ ≠ gb345 ∧ k_ ≠ gb354) (.slice Ao59 x320001_5.length co59) x320001_5) := ⟨(by rw [hw]; exact (by (with_reducible repeat (first | apply Kd.V_alloc | apply Kd.V_drewN | apply Kd.V_drew)); exact Kd.V_mono (Kd.V_far (p := ⟨gb345, 2, none⟩) (Kd.V_far (p := ⟨gb345, 1, none⟩) (Kd.V_far (p := ⟨gb345, 0, none⟩) (Kd.V_mono HO_320001.out (fun k_ hk => (⟨hk, hk.1.1.2.2.2.2.2.2.1⟩ : _ ∧ k_ ≠ gb345))) (fun _ hk => hk.2) (.int .i64 t409)) (fun _ hk => hk.2) (.slice Ao193 t410.length co193)) (fun _ hk => hk.2) (.slice Ao194 t413.length co194)) (fun _ hk => ⟨hk.1.1.1.1, ⟨hk.1.1.2, ⟨hk.1.2, ⟨hk.1.1.1.2.2.2.2.1, ⟨hk.1.1.1.2.2.2.2.2.1, ⟨hk.1.1.1.2.2.2.2.2.2.1, hk.1.1.1.2.2.2.2.2.2.2⟩⟩⟩⟩⟩⟩)))⟩; have n3_ : Aside0 (Kd.V (Kd.int .i64) 3 w195 w.heap.size (fun k_ => ((P0_1_ k_ ∨ P0_2_ k_) ∨ w.heap.size ≤ k_) ∧ some k_ ≠ (.slice Ao193 t410.length co193 : Value).ownBlock ∧ some k_ ≠ (.slice Ao194 t413.length co194 : Value).ownBlock ∧ k_ ≠ gb318 ∧ k_ ≠ gb319 ∧ k_ ≠ gb345 ∧ k_ ≠ gb354) (.slice Ao60 x320002_5.length co60) x320002_5) := ⟨(by rw [hw]; exact (by (with_reducible repeat (first | apply Kd.V_alloc | apply Kd.V_drewN | apply Kd.V_drew)); exact Kd.V_mono (Kd.V_far (p := ⟨gb345, 2, none⟩) (Kd.V_far (p := ⟨gb345, 1, none⟩) (Kd.V_far (p := ⟨gb345, 0, none⟩) (Kd.V_mono HO_320002.out (fun k_ hk => (⟨hk, hk.1.1.2.2.2.2.2.2.1⟩ : _ ∧ k_ ≠ gb345))) (fun _ hk => hk.2) (.int .i64 t409)) (fun _ hk => hk.2) (.slice Ao193 t410.length co193)) (fun _ hk => hk.2) (.slice Ao194 t413.length co194)) (fun _ hk => ⟨hk.1.1.1.1, ⟨hk.1.1.2, ⟨hk.1.2, ⟨hk.1.1.1.2.2.2.2.1, ⟨hk.1.1.1.2.2.2.2.2.1, ⟨hk.1.1.1.2.2.2.2.2.2.1, hk.1.1.1.2.2.2.2.2.2.2⟩⟩⟩⟩⟩⟩)))⟩; have n4_ : Aside0 (Kd.R (Kd.int .i64) 3 w195 w.heap.size (fun k_ => (w.heap.size ≤ k_) ∧ some k_ ≠ (.slice Ao194 t413.length co194 : Value).ownBlock) (.slice Ao193 t410.length co193) t410) := ⟨(by rw [hw]; exact (by (with_reducible repeat (first | apply Kd.R_alloc | apply Kd.R_drewN | apply Kd.R_drew)); exact Kd.R_mono (Kd.R_far (p := ⟨gb345, 2, none⟩) (Kd.R_far (p := ⟨gb345, 1, none⟩) (Kd.R_far (p := ⟨gb345, 0, none⟩) (Kd.R_types HO412.out BK345.out (by decide)) (fun _ hk => hk.2) (.int .i64 t409)) (fun _ hk => hk.2) (.slice Ao193 t410.length co193)) (fun _ hk => hk.2) (.slice Ao194 t413.length co194)) (fun _ hk => ⟨hk.1.1, hk.1.2⟩)))⟩; have n5_ : Aside0 (Kd.R (Kd.int .i64) 3 w195 w.heap.size (fun k_ => (w.heap.size ≤ k_) ∧ some k_ ≠ (.slice Ao193 t410.length co193 : Value).ownBlock) (.slice Ao194 t413.length co194) t413) := ⟨(by rw [hw]; exact (by (with_reducible repeat (first | apply Kd.R_alloc | apply Kd.R_drewN | apply Kd.R_drew)); exact Kd.R_mono (Kd.R_far (p := ⟨gb345, 2, none⟩) (Kd.R_far (p := ⟨gb345, 1, none⟩) (Kd.R_far (p := ⟨gb345, 0, none⟩) (Kd.R_types HO415.out BK345.out (by decide)) (fun _ hk => hk.2) (.int .i64 t409)) (fun _ hk => hk.2) (.slice Ao193 t410.length co193)) (fun _ hk => hk.2) (.slice Ao194 t413.length co194)) (fun _ hk => ⟨hk.1.1, hk.1.2⟩)))⟩; have n6_ : Aside0 (w195.heap[gb318]? = some (.cells #[.int .i64 a0_0, .slice A0_1 l0_1.length c0_1, .slice A0_2 l0_2.length c0_2] 24 (0, 0))) := ⟨(by rw [hw]; exact (by (with_reducible repeat (first | refine blk_drewN ?_ _ | refine blk_drew ?_ | refine blk_alloc ?_ _)); refine blk_far ?_ NB318_345.out _; (with_reducible repeat (first | refine blk_drewN ?_ _ | refine blk_drew ?_ | refine blk_alloc ?_ _)); refine blk_far ?_ NB318_345.out _; (with_reducible repeat (first | refine blk_drewN ?_ _ | refine blk_drew ?_ | refine blk_alloc ?_ _)); refine blk_far ?_ NB318_345.out _; (with_reducible repeat (first | refine blk_drewN ?_ _ | refine blk_drew ?_ | refine blk_alloc ?_ _)); exact BK318.out))⟩; have n7_ : Aside0 (w195.heap[gb319]? = some (.cells #[.int .i64 x320000_5, .slice Ao59 x320001_5.length co59, .slice Ao60 x320002_5.length co60] 24 (0, 0))) := ⟨(by rw [hw]; exact (by (with_reducible repeat (first | refine blk_drewN ?_ _ | refine blk_drew ?_ | refine blk_alloc ?_ _)); refine blk_far ?_ NB319_345.out _; (with_reducible repeat (first | refine blk_drewN ?_ _ | refine blk_drew ?_ | refine blk_alloc ?_ _)); refine blk_far ?_ NB319_345.out _; (with_reducible repeat (first | refine blk_drewN ?_ _ | refine blk_drew ?_ | refine blk_alloc ?_ _)); refine blk_far ?_ NB319_345.out _; (with_reducible repeat (first | refine blk_drewN ?_ _ | refine blk_drew ?_ | refine blk_alloc ?_ _)); exact BK319.out))⟩; have n8_ : Aside0 (w195.heap[gb345]? = some (.cells #[.int .i64 t409, .slice Ao193 t410.length co193, .slice Ao194 t413.length co194] 24 (0, 0))) := ⟨(by rw [hw]; exact (by (with_reducible repeat (first | refine blk_drewN ?_ _ | refine blk_drew ?_ | refine blk_alloc ?_ _)); refine blk_put (cs := #[.int .i64 t409, .slice Ao193 t410.length co193, .slice Ao163 t396.length co163]) ?_ 2 _ rfl; (with_reducible repeat (first | refine blk_drewN ?_ _ | refine blk_drew ?_ | refine blk_alloc ?_ _)); refine blk_put (cs := #[.int .i64 t409, .slice Ao162 t393.length co162, .slice Ao163 t396.length co163]) ?_ 1 _ rfl; (with_reducible repeat (first | refine blk_drewN ?_ _ | refine blk_drew ?_ | refine blk_alloc ?_ _)); refine blk_put (cs := #[.int .i64 t392, .slice Ao162 t393.length co162, .slice Ao163 t396.length co163]) ?_ 0 _ rfl; (with_reducible repeat (first | refine blk_drewN ?_ _ | refine blk_drew ?_ | refine blk_alloc ?_ _)); exact BK345.out))⟩; have n9_ : Aside0 (w195.heap[gb354]? = some (.cells #[.int .i64 t400, .slice Ao169 t401.length co169, .slice Ao170 t404.length co170] 24 (0, 0))) := ⟨(by rw [hw]; exact (by (with_reducible repeat (first | refine blk_drewN ?_ _ | refine blk_drew ?_ | refine blk_alloc ?_ _)); refine blk_far ?_ NB354_345.out _; (with_reducible repeat (first | refine blk_drewN ?_ _ | refine blk_drew ?_ | refine blk_alloc ?_ _)); refine blk_far ?_ NB354_345.out _; (with_reducible repeat (first | refine blk_drewN ?_ _ | refine blk_drew ?_ | refine blk_alloc ?_ _)); refine blk_far ?_ NB354_345.out _; (with_reducible repeat (first | refine blk_drewN ?_ _ | refine blk_drew ?_ | refine blk_alloc ?_ _)); exact BK354.out))⟩; have n10_ : Aside0 (Below w.heap.size w w195) := ⟨(by rw [hw]; exact (by repeat (first | (with_reducible first | exact HB.out | apply below_alloc | apply pw_below_drewN | apply below_drew1 | refine below_set ?_ GE318.out | refine below_set ?_ GE319.out | refine below_set ?_ GE345.out | refine below_set ?_ GE354.out) | exact HB.out)))⟩; clear hw; clear HO_319001; clear HO_319002; clear HO_320001; clear HO_320002; clear HO412; clear HO415; clear BK318; clear BK319; clear BK345; clear BK354; clear HB; have HO_319001 := n0_; have HO_319002 := n1_; have HO_320001 := n2_; have HO_320002 := n3_; have HO412 := n4_; have HO415 := n5_; have BK318 := n6_; have BK319 := n7_; have BK345 := n8_; have BK354 := n9_; have HB := n10_; clear n0_ n1_ n2_ n3_ n4_ n5_ n6_ n7_ n8_ n9_ n10_; have hcz196_0 : w195.cell? ⟨gb319, 0, none⟩ = some (.int .i64 x320000_5) := (blk_cell BK319.out 0).trans rfl; have hcz196_1 : w195.cell? ⟨gb319, 1, none⟩ = some (.slice Ao59 x320001_5.length co59) := (blk_cell BK319.out 1).trans rfl; have hcz196_2 : w195.cell? ⟨gb319, 2, none⟩ = some (.slice Ao60 x320002_5.length co60) := (blk_cell BK319.out 2).trans rfl; have hfz196_0 := blk_frozen BK319.out 0; have hfz196_1 := blk_frozen BK319.out 1; have hfz196_2 := blk_frozen BK319.out 2) | ((with_reducible refine gate_callee (f := 22) rfl ?_); refine goesL_ (some 180) rfl rfl Try.func22 (by kernel_rfl) rfl #[.agg #[.int .i64 x320000_5, .slice Ao59 x320001_5.length co59, .slice Ao60 x320002_5.length co60], .int .i64 x2_5] rfl (by (try simp only [List.map_toArray, List.map_cons, List.map_nil]); first | done | rfl | (simp only [List.length_drop, List.length_take]; rfl)) ?_; (with_reducible refine (customsref33_Confirm.calls x320000_5 (fun k_ => (((P0_1_ k_ ∨ P0_2_ k_) ∨ w.heap.size ≤ k_) ∧ (some k_ ≠ (.slice Ao193 t410.length co193 : Value).ownBlock ∧ (some k_ ≠ (.slice Ao194 t413.length co194 : Value).ownBlock ∧ (k_ ≠ gb318 ∧ (k_ ≠ gb319 ∧ (k_ ≠ gb345 ∧ k_ ≠ gb354))))))) _ _ x320001_5 _ _ x320002_5 x2_5 t417 t418 t421 t424 _ ?side1 ?side2 ?side3 A183.out).mono ?_); (case side1 => exact HO_320001.out); (case side2 => exact pC (Kd.V_reads' HO_320002.out).2.2); (case side3 => exact (Kd.V_reads' HO_320002.out).2.1); rintro e w197 ⟨v419, v422, rfl, ho0, ho1, hb⟩; refine ⟨_, rfl, ?_⟩; have n0_ := Aside0.mk (Kd.V_elder' (by exact pV HO_319001.out) (Kd.R_base ho1) hb); have n1_ := Aside0.mk (Kd.V_elder' (by exact pV HO_319002.out) (Kd.R_base ho1) hb); have n2_ := Aside0.mk (Kd.V_elder' (by exact pV HO_320001.out) (Kd.R_base ho1) hb); have n3_ := Aside0.mk (Kd.V_elder' (by exact pV HO_320002.out) (Kd.R_base ho1) hb); have n4_ := Aside0.mk (Kd.R_elder' (by exact pR HO412.out) (Kd.R_base ho1) hb); have n5_ := Aside0.mk (Kd.R_elder' (by exact pR HO415.out) (Kd.R_base ho1) hb); have n6_ := Aside0.mk (Kd.V_lower (Kd.V_mono (ok' := fun k_ => ((P0_1_ k_ ∨ P0_2_ k_) ∨ w.heap.size ≤ k_) ∧ some k_ ≠ (v422 : Value).ownBlock ∧ some k_ ≠ (.slice Ao193 t410.length co193 : Value).ownBlock ∧ some k_ ≠ (.slice Ao194 t413.length co194 : Value).ownBlock ∧ k_ ≠ gb318 ∧ k_ ≠ gb319 ∧ k_ ≠ gb345 ∧ k_ ≠ gb354) ho0 (fun k_ hk_ => ⟨Or.elim hk_.1 (fun hs_ => hs_.1) (fun hn_ => (.inr (Nat.le_trans (below_size (by exact pB HB.out)) hn_))), hk_.2, Or.elim hk_.1 (fun hs_ => hs_.2.1) (fun hn_ => (Kd.fresh' (Kd.R_lt (by exact pR HO412.out)) k_ hn_)), Or.elim hk_.1 (fun hs_ => hs_.2.2.1) (fun hn_ => (Kd.fresh' (Kd.R_lt (by exact pR HO415.out)) k_ hn_)), Or.elim hk_.1 (fun hs_ => hs_.2.2.2.1) (fun hn_ => (Kd.freshB (g := gb318) (o := .cells #[.int .i64 a0_0, .slice A0_1 l0_1.length c0_1, .slice A0_2 l0_2.length c0_2] 24 (0, 0)) (by exact pK BK318.out) k_ hn_)), Or.elim hk_.1 (fun hs_ => hs_.2.2.2.2.1) (fun hn_ => (Kd.freshB (g := gb319) (o := .cells #[.int .i64 x320000_5, .slice Ao59 x320001_5.length co59, .slice Ao60 x320002_5.length co60] 24 (0, 0)) (by exact pK BK319.out) k_ hn_)), Or.elim hk_.1 (fun hs_ => hs_.2.2.2.2.2.1) (fun hn_ => (Kd.freshB (g := gb345) (o := .cells #[.int .i64 t409, .slice Ao193 t410.length co193, .slice Ao194 t413.length co194] 24 (0, 0)) (by exact pK BK345.out) k_ hn_)), Or.elim hk_.1 (fun hs_ => hs_.2.2.2.2.2.2) (fun hn_ => (Kd.freshB (g := gb354) (o := .cells #[.int .i64 t400, .slice Ao169 t401.length co169, .slice Ao170 t404.length co170] 24 (0, 0)) (by exact pK BK354.out) k_ hn_))⟩)) (below_size (by exact pB HB.out))); have n7_ := Aside0.mk (Kd.R_lower (Kd.R_new' (Kd.R_new' (Kd.R_newM (M := fun k_ => (w.heap.size ≤ k_)) (Kd.R_mono (ok' := fun k_ => True) ho1 (fun _ hk_ => trivial)) (below_size (by exact pB HB.out)) (fun k_ h_ => h_)) (Kd.R_lt (by exact pR HO412.out))) (Kd.R_lt (by exact pR HO415.out))) (below_size (by exact pB HB.out))); have n8_ := Aside0.mk (blk_below (g := gb318) (o := .cells #[.int .i64 a0_0, .slice A0_1 l0_1.length c0_1, .slice A0_2 l0_2.length c0_2] 24 (0, 0)) (by exact pK BK318.out) hb); have n9_ := Aside0.mk (blk_below (g := gb319) (o := .cells #[.int .i64 x320000_5, .slice Ao59 x320001_5.length co59, .slice Ao60 x320002_5.length co60] 24 (0, 0)) (by exact pK BK319.out) hb); have n10_ := Aside0.mk (blk_below (g := gb345) (o := .cells #[.int .i64 t409, .slice Ao193 t410.length co193, .slice Ao194 t413.length co194] 24 (0, 0)) (by exact pK BK345.out) hb); have n11_ := Aside0.mk (blk_below (g := gb354) (o := .cells #[.int .i64 t400, .slice Ao169 t401.length co169, .slice Ao170 t404.length co170] 24 (0, 0)) (by exact pK BK354.out) hb); have n12_ := Aside0.mk (below_step (by exact pB HB.out) hb); clear HO_319001; clear HO_319002; clear HO_320001; clear HO_320002; clear HO412; clear HO415; clear BK318; clear BK319; clear BK345; clear BK354; clear HB; have HO_319001 := n0_; have HO_319002 := n1_; have HO_320001 := n2_; have HO_320002 := n3_; have HO412 := n4_; have HO415 := n5_; have HO420 := n6_; have HO423 := n7_; have BK318 := n8_; have BK319 := n9_; have BK345 := n10_; have BK354 := n11_; have HB := n12_; clear n0_ n1_ n2_ n3_ n4_ n5_ n6_ n7_ n8_ n9_ n10_ n11_ n12_; (try clear hb); (try clear hb2); (try clear hk); (try clear hi); (try clear ho0); (try clear ho1); have hnb198 := NB354_318.out; have hnc198 := NB318_354.out; have hcz199_0 : w197.cell? ⟨gb354, 0, none⟩ = some (.int .i64 t400) := (blk_cell BK354.out 0).trans rfl; have hcz199_1 : w197.cell? ⟨gb354, 1, none⟩ = some (.slice Ao169 t401.length co169) := (blk_cell BK354.out 1).trans rfl; have hcz199_2 : w197.cell? ⟨gb354, 2, none⟩ = some (.slice Ao170 t404.length co170) := (blk_cell BK354.out 2).trans rfl; have hfz199_0 := blk_frozen BK354.out 0; have hfz199_1 := blk_frozen BK354.out 1; have hfz199_2 := blk_frozen BK354.out 2; obtain ⟨Ao200, co200, eo200⟩ := Kd.V_slice HO420.out; subst eo200; obtain ⟨Ao201, co201, eo201⟩ := Kd.R_slice HO423.out; subst eo201))
            (try simp only [Act.put, List.setIfInBounds_toArray, List.set_cons_zero, List.set_cons_succ])
            go_cut [191] (fun v191 wc => ∃ (kq : Nat) (x191_183 : Bool), v191 = .bool x191_183 ∧ Aside0 (customslaw38_ChannelSteps.j8 kq x1_5 x2_5 x191_183 x320000_5 x320001_5 x320002_5 = some true) ∧ Aside0 (kq ≤ kj152) ∧ Aside0 (Kd.V (Kd.int .i64) 3 wc w.heap.size (fun k_ => ((P0_1_ k_ ∨ P0_2_ k_) ∨ w.heap.size ≤ k_) ∧ some k_ ≠ ((.slice Ao193 t410.length co193) : Value).ownBlock ∧ some k_ ≠ ((.slice Ao194 t413.length co194) : Value).ownBlock ∧ some k_ ≠ ((.slice Ao201 t421.length co201) : Value).ownBlock ∧ k_ ≠ gb318 ∧ k_ ≠ gb319 ∧ k_ ≠ gb345 ∧ k_ ≠ gb354) (.slice A0_1 l0_1.length c0_1) l0_1) ∧ Aside0 (Kd.V (Kd.int .i64) 3 wc w.heap.size (fun k_ => ((P0_1_ k_ ∨ P0_2_ k_) ∨ w.heap.size ≤ k_) ∧ some k_ ≠ ((.slice Ao193 t410.length co193) : Value).ownBlock ∧ some k_ ≠ ((.slice Ao194 t413.length co194) : Value).ownBlock ∧ some k_ ≠ ((.slice Ao201 t421.length co201) : Value).ownBlock ∧ k_ ≠ gb318 ∧ k_ ≠ gb319 ∧ k_ ≠ gb345 ∧ k_ ≠ gb354) (.slice A0_2 l0_2.length c0_2) l0_2) ∧ Aside0 (Kd.V (Kd.int .i64) 3 wc w.heap.size (fun k_ => ((P0_1_ k_ ∨ P0_2_ k_) ∨ w.heap.size ≤ k_) ∧ some k_ ≠ ((.slice Ao193 t410.length co193) : Value).ownBlock ∧ some k_ ≠ ((.slice Ao194 t413.length co194) : Value).ownBlock ∧ some k_ ≠ ((.slice Ao201 t421.length co201) : Value).ownBlock ∧ k_ ≠ gb318 ∧ k_ ≠ gb319 ∧ k_ ≠ gb345 ∧ k_ ≠ gb354) (.slice Ao59 x320001_5.length co59) x320001_5) ∧ Aside0 (Kd.V (Kd.int .i64) 3 wc w.heap.size (fun k_ => ((P0_1_ k_ ∨ P0_2_ k_) ∨ w.heap.size ≤ k_) ∧ some k_ ≠ ((.slice Ao193 t410.length co193) : Value).ownBlock ∧ some k_ ≠ ((.slice Ao194 t413.length co194) : Value).ownBlock ∧ some k_ ≠ ((.slice Ao201 t421.length co201) : Value).ownBlock ∧ k_ ≠ gb318 ∧ k_ ≠ gb319 ∧ k_ ≠ gb345 ∧ k_ ≠ gb354) (.slice Ao60 x320002_5.length co60) x320002_5) ∧ Aside0 (Kd.R (Kd.int .i64) 3 wc w.heap.size (fun k_ => (w.heap.size ≤ k_) ∧ some k_ ≠ ((.slice Ao194 t413.length co194) : Value).ownBlock ∧ some k_ ≠ ((.slice Ao201 t421.length co201) : Value).ownBlock) (.slice Ao193 t410.length co193) t410) ∧ Aside0 (Kd.R (Kd.int .i64) 3 wc w.heap.size (fun k_ => (w.heap.size ≤ k_) ∧ some k_ ≠ ((.slice Ao193 t410.length co193) : Value).ownBlock ∧ some k_ ≠ ((.slice Ao201 t421.length co201) : Value).ownBlock) (.slice Ao194 t413.length co194) t413) ∧ Aside0 (Kd.V (Kd.int .i64) 3 wc w.heap.size (fun k_ => ((P0_1_ k_ ∨ P0_2_ k_) ∨ w.heap.size ≤ k_) ∧ some k_ ≠ ((.slice Ao193 t410.length co193) : Value).ownBlock ∧ some k_ ≠ ((.slice Ao194 t413.length co194) : Value).ownBlock ∧ some k_ ≠ ((.slice Ao201 t421.length co201) : Value).ownBlock ∧ k_ ≠ gb318 ∧ k_ ≠ gb319 ∧ k_ ≠ gb345 ∧ k_ ≠ gb354) (.slice Ao200 t418.length co200) t418) ∧ Aside0 (Kd.R (Kd.int .i64) 3 wc w.heap.size (fun k_ => (w.heap.size ≤ k_) ∧ some k_ ≠ ((.slice Ao193 t410.length co193) : Value).ownBlock ∧ some k_ ≠ ((.slice Ao194 t413.length co194) : Value).ownBlock) (.slice Ao201 t421.length co201) t421) ∧ Aside0 (wc.heap[gb318]? = some (.cells #[.int .i64 a0_0, (.slice A0_1 l0_1.length c0_1), (.slice A0_2 l0_2.length c0_2)] 24 (0, 0))) ∧ Aside0 (wc.heap[gb319]? = some (.cells #[.int .i64 x320000_5, (.slice Ao59 x320001_5.length co59), (.slice Ao60 x320002_5.length co60)] 24 (0, 0))) ∧ Aside0 (wc.heap[gb345]? = some (.cells #[.int .i64 t409, (.slice Ao193 t410.length co193), (.slice Ao194 t413.length co194)] 24 (0, 0))) ∧ Aside0 (wc.heap[gb354]? = some (.cells #[.int .i64 t417, (.slice Ao200 t418.length co200), (.slice Ao201 t421.length co201)] 24 (0, 0))) ∧ Aside0 (Below w.heap.size w wc))
            case first => as_aux_lemma =>
              have H := HC184.out
              clear HC184
              by_cases c202 : t416 = t424
              · rw [if_pos c202] at H
                have c202b0 : (t416 == t424) = true := beq_iff_eq.mpr c202
                have c202b1 : (t416 != t424) = false := bne_eq_false_iff_eq.mpr c202
                clear c202
                (first | rw [c202b0] | (simp only [i64_w, i32_w]; rw [c202b0]) | skip)
                replace H := Option.bind_eq_some_iff.mp H
                obtain ⟨t425, A2030, H⟩ := H
                replace H : (customslaw38_ChannelSteps.j8 kj152 x1_5 x2_5 (!t425) x320000_5 x320001_5 x320002_5) = some true := H
                have A203 := Aside0.mk A2030
                clear A2030
                have H' := Aside0.mk H
                clear H
                have hnb204 := NB345_318.out
                have hnc204 := NB318_345.out
                have hnb205 := NB345_319.out
                have hnc205 := NB319_345.out
                have hnb206 := NB345_354.out
                have hnc206 := NB354_345.out
                have hcz207_0 : w197.cell? ⟨gb345, 0, none⟩ = some (.int .i64 t409) := (blk_cell BK345.out 0).trans rfl
                have hcz207_1 : w197.cell? ⟨gb345, 1, none⟩ = some (.slice Ao193 t410.length co193) := (blk_cell BK345.out 1).trans rfl
                have hcz207_2 : w197.cell? ⟨gb345, 2, none⟩ = some (.slice Ao194 t413.length co194) := (blk_cell BK345.out 2).trans rfl
                have hfz207_0 := blk_frozen BK345.out 0
                have hfz207_1 := blk_frozen BK345.out 1
                have hfz207_2 := blk_frozen BK345.out 2
                have hnb208 := NB354_318.out
                have hnc208 := NB318_354.out
                have hnb209 := NB354_319.out
                have hnc209 := NB319_354.out
                have hcz210_0 : w197.cell? ⟨gb354, 0, none⟩ = some (.int .i64 t400) := (blk_cell BK354.out 0).trans rfl
                have hcz210_1 : w197.cell? ⟨gb354, 1, none⟩ = some (.slice Ao169 t401.length co169) := (blk_cell BK354.out 1).trans rfl
                have hcz210_2 : w197.cell? ⟨gb354, 2, none⟩ = some (.slice Ao170 t404.length co170) := (blk_cell BK354.out 2).trans rfl
                have hfz210_0 := blk_frozen BK354.out 0
                have hfz210_1 := blk_frozen BK354.out 1
                have hfz210_2 := blk_frozen BK354.out 2
                go_wp2_with (first | (go_at_call 10; (with_reducible refine (customsref33_SameLine.calls kj152 t409 _ _ t410 _ _ t413 t417 _ _ t418 _ _ t421 t425 _ ?side1 ?side2 ?side3 ?side4 ?side5 ?side6 ?side7 ?side8 A203.out).mono ?_); (case side1 => refine (Kd.R_reads' (e := 3) (base := w.heap.size) (ok := fun k_ => (((w.heap.size ≤ k_) ∧ some k_ ≠ (.slice Ao194 t413.length co194 : Value).ownBlock) ∧ some k_ ≠ (.slice Ao201 t421.length co201 : Value).ownBlock)) (n := t410.length) (c := co193) ?_).2.2; exact (by (with_reducible repeat (first | apply Kd.R_alloc | apply Kd.R_drewN | apply Kd.R_drew)); exact (Kd.R_mono (Kd.R_far (p := ⟨gb354, 2, none⟩) (Kd.R_far (p := ⟨gb354, 1, none⟩) (Kd.R_far (p := ⟨gb354, 0, none⟩) (Kd.R_types HO412.out BK354.out (by decide)) (fun _ hk => hk.2) (.int .i64 t417)) (fun _ hk => hk.2) (.slice Ao200 t418.length co200)) (fun _ hk => hk.2) (.slice Ao201 t421.length co201)) (fun _ h_ => h_.1)))); (case side2 => exact (Kd.R_reads' HO412.out).2.1); (case side3 => refine (Kd.R_reads' (e := 3) (base := w.heap.size) (ok := fun k_ => (((w.heap.size ≤ k_) ∧ some k_ ≠ (.slice Ao193 t410.length co193 : Value).ownBlock) ∧ some k_ ≠ (.slice Ao201 t421.length co201 : Value).ownBlock)) (n := t413.length) (c := co194) ?_).2.2; exact (by (with_reducible repeat (first | apply Kd.R_alloc | apply Kd.R_drewN | apply Kd.R_drew)); exact (Kd.R_mono (Kd.R_far (p := ⟨gb354, 2, none⟩) (Kd.R_far (p := ⟨gb354, 1, none⟩) (Kd.R_far (p := ⟨gb354, 0, none⟩) (Kd.R_types HO415.out BK354.out (by decide)) (fun _ hk => hk.2) (.int .i64 t417)) (fun _ hk => hk.2) (.slice Ao200 t418.length co200)) (fun _ hk => hk.2) (.slice Ao201 t421.length co201)) (fun _ h_ => h_.1)))); (case side4 => exact (Kd.R_reads' HO415.out).2.1); (case side5 => refine (Kd.V_reads' (e := 3) (base := w.heap.size) (ok := fun k_ => (((P0_1_ k_ ∨ P0_2_ k_) ∨ w.heap.size ≤ k_) ∧ (some k_ ≠ (.slice Ao201 t421.length co201 : Value).ownBlock ∧ (some k_ ≠ (.slice Ao193 t410.length co193 : Value).ownBlock ∧ (some k_ ≠ (.slice Ao194 t413.length co194 : Value).ownBlock ∧ (k_ ≠ gb318 ∧ (k_ ≠ gb319 ∧ (k_ ≠ gb345 ∧ k_ ≠ gb354)))))))) (n := t418.length) (c := co200) ?_).2.2; exact (by (with_reducible repeat (first | apply Kd.V_alloc | apply Kd.V_drewN | apply Kd.V_drew)); exact (Kd.V_mono (Kd.V_far (p := ⟨gb354, 2, none⟩) (Kd.V_far (p := ⟨gb354, 1, none⟩) (Kd.V_far (p := ⟨gb354, 0, none⟩) (Kd.V_mono HO420.out (fun k_ hk => (⟨hk, hk.2.2.2.2.2.2.2⟩ : _ ∧ k_ ≠ gb354))) (fun _ hk => hk.2) (.int .i64 t417)) (fun _ hk => hk.2) (.slice Ao200 t418.length co200)) (fun _ hk => hk.2) (.slice Ao201 t421.length co201)) (fun _ h_ => h_.1)))); (case side6 => exact (Kd.V_reads' HO420.out).2.1); (case side7 => refine (Kd.R_reads' (e := 3) (base := w.heap.size) (ok := fun k_ => ((((w.heap.size ≤ k_) ∧ True) ∧ some k_ ≠ (.slice Ao193 t410.length co193 : Value).ownBlock) ∧ some k_ ≠ (.slice Ao194 t413.length co194 : Value).ownBlock)) (n := t421.length) (c := co201) ?_).2.2; exact (by (with_reducible repeat (first | apply Kd.R_alloc | apply Kd.R_drewN | apply Kd.R_drew)); exact (Kd.R_mono (Kd.R_far (p := ⟨gb354, 2, none⟩) (Kd.R_far (p := ⟨gb354, 1, none⟩) (Kd.R_far (p := ⟨gb354, 0, none⟩) (Kd.R_types HO423.out BK354.out (by decide)) (fun _ hk => hk.2) (.int .i64 t417)) (fun _ hk => hk.2) (.slice Ao200 t418.length co200)) (fun _ hk => hk.2) (.slice Ao201 t421.length co201)) (fun _ h_ => h_.1)))); (case side8 => exact (Kd.R_reads' HO423.out).2.1); rintro e w211 ⟨rfl, hb⟩; have n0_ := Aside0.mk (Kd.V_below (by (with_reducible repeat (first | apply Kd.V_alloc | apply Kd.V_drewN | apply Kd.V_drew)); exact (Kd.V_mono (Kd.V_far (p := ⟨gb354, 2, none⟩) (Kd.V_far (p := ⟨gb354, 1, none⟩) (Kd.V_far (p := ⟨gb354, 0, none⟩) (Kd.V_mono HO_319001.out (fun k_ hk => (⟨hk, hk.1.2.2.2.2.2.2⟩ : _ ∧ k_ ≠ gb354))) (fun _ hk => hk.2) (.int .i64 t417)) (fun _ hk => hk.2) (.slice Ao200 t418.length co200)) (fun _ hk => hk.2) (.slice Ao201 t421.length co201)) (fun _ h_ => h_.1))) hb); have n1_ := Aside0.mk (Kd.V_below (by (with_reducible repeat (first | apply Kd.V_alloc | apply Kd.V_drewN | apply Kd.V_drew)); exact (Kd.V_mono (Kd.V_far (p := ⟨gb354, 2, none⟩) (Kd.V_far (p := ⟨gb354, 1, none⟩) (Kd.V_far (p := ⟨gb354, 0, none⟩) (Kd.V_mono HO_319002.out (fun k_ hk => (⟨hk, hk.1.2.2.2.2.2.2⟩ : _ ∧ k_ ≠ gb354))) (fun _ hk => hk.2) (.int .i64 t417)) (fun _ hk => hk.2) (.slice Ao200 t418.length co200)) (fun _ hk => hk.2) (.slice Ao201 t421.length co201)) (fun _ h_ => h_.1))) hb); have n2_ := Aside0.mk (Kd.V_below (by (with_reducible repeat (first | apply Kd.V_alloc | apply Kd.V_drewN | apply Kd.V_drew)); exact (Kd.V_mono (Kd.V_far (p := ⟨gb354, 2, none⟩) (Kd.V_far (p := ⟨gb354, 1, none⟩) (Kd.V_far (p := ⟨gb354, 0, none⟩) (Kd.V_mono HO_320001.out (fun k_ hk => (⟨hk, hk.1.2.2.2.2.2.2⟩ : _ ∧ k_ ≠ gb354))) (fun _ hk => hk.2) (.int .i64 t417)) (fun _ hk => hk.2) (.slice Ao200 t418.length co200)) (fun _ hk => hk.2) (.slice Ao201 t421.length co201)) (fun _ h_ => h_.1))) hb); have n3_ := Aside0.mk (Kd.V_below (by (with_reducible repeat (first | apply Kd.V_alloc | apply Kd.V_drewN | apply Kd.V_drew)); exact (Kd.V_mono (Kd.V_far (p := ⟨gb354, 2, none⟩) (Kd.V_far (p := ⟨gb354, 1, none⟩) (Kd.V_far (p := ⟨gb354, 0, none⟩) (Kd.V_mono HO_320002.out (fun k_ hk => (⟨hk, hk.1.2.2.2.2.2.2⟩ : _ ∧ k_ ≠ gb354))) (fun _ hk => hk.2) (.int .i64 t417)) (fun _ hk => hk.2) (.slice Ao200 t418.length co200)) (fun _ hk => hk.2) (.slice Ao201 t421.length co201)) (fun _ h_ => h_.1))) hb); have n4_ := Aside0.mk (Kd.R_below (by (with_reducible repeat (first | apply Kd.R_alloc | apply Kd.R_drewN | apply Kd.R_drew)); exact (Kd.R_mono (Kd.R_far (p := ⟨gb354, 2, none⟩) (Kd.R_far (p := ⟨gb354, 1, none⟩) (Kd.R_far (p := ⟨gb354, 0, none⟩) (Kd.R_types HO412.out BK354.out (by decide)) (fun _ hk => hk.2) (.int .i64 t417)) (fun _ hk => hk.2) (.slice Ao200 t418.length co200)) (fun _ hk => hk.2) (.slice Ao201 t421.length co201)) (fun _ h_ => h_.1))) hb); have n5_ := Aside0.mk (Kd.R_below (by (with_reducible repeat (first | apply Kd.R_alloc | apply Kd.R_drewN | apply Kd.R_drew)); exact (Kd.R_mono (Kd.R_far (p := ⟨gb354, 2, none⟩) (Kd.R_far (p := ⟨gb354, 1, none⟩) (Kd.R_far (p := ⟨gb354, 0, none⟩) (Kd.R_types HO415.out BK354.out (by decide)) (fun _ hk => hk.2) (.int .i64 t417)) (fun _ hk => hk.2) (.slice Ao200 t418.length co200)) (fun _ hk => hk.2) (.slice Ao201 t421.length co201)) (fun _ h_ => h_.1))) hb); have n6_ := Aside0.mk (Kd.V_below (by (with_reducible repeat (first | apply Kd.V_alloc | apply Kd.V_drewN | apply Kd.V_drew)); exact (Kd.V_mono (Kd.V_far (p := ⟨gb354, 2, none⟩) (Kd.V_far (p := ⟨gb354, 1, none⟩) (Kd.V_far (p := ⟨gb354, 0, none⟩) (Kd.V_mono HO420.out (fun k_ hk => (⟨hk, hk.2.2.2.2.2.2.2⟩ : _ ∧ k_ ≠ gb354))) (fun _ hk => hk.2) (.int .i64 t417)) (fun _ hk => hk.2) (.slice Ao200 t418.length co200)) (fun _ hk => hk.2) (.slice Ao201 t421.length co201)) (fun _ h_ => h_.1))) hb); have n7_ := Aside0.mk (Kd.R_below (by (with_reducible repeat (first | apply Kd.R_alloc | apply Kd.R_drewN | apply Kd.R_drew)); exact (Kd.R_mono (Kd.R_far (p := ⟨gb354, 2, none⟩) (Kd.R_far (p := ⟨gb354, 1, none⟩) (Kd.R_far (p := ⟨gb354, 0, none⟩) (Kd.R_types HO423.out BK354.out (by decide)) (fun _ hk => hk.2) (.int .i64 t417)) (fun _ hk => hk.2) (.slice Ao200 t418.length co200)) (fun _ hk => hk.2) (.slice Ao201 t421.length co201)) (fun _ h_ => h_.1))) hb); have n8_ := Aside0.mk (blk_below (g := gb318) (o := .cells #[.int .i64 a0_0, .slice A0_1 l0_1.length c0_1, .slice A0_2 l0_2.length c0_2] 24 (0, 0)) (by (with_reducible repeat (first | refine blk_drewN ?_ _ | refine blk_drew ?_ | refine blk_alloc ?_ _)); refine blk_far ?_ NB318_354.out _; (with_reducible repeat (first | refine blk_drewN ?_ _ | refine blk_drew ?_ | refine blk_alloc ?_ _)); refine blk_far ?_ NB318_354.out _; (with_reducible repeat (first | refine blk_drewN ?_ _ | refine blk_drew ?_ | refine blk_alloc ?_ _)); refine blk_far ?_ NB318_354.out _; (with_reducible repeat (first | refine blk_drewN ?_ _ | refine blk_drew ?_ | refine blk_alloc ?_ _)); exact BK318.out) hb); have n9_ := Aside0.mk (blk_below (g := gb319) (o := .cells #[.int .i64 x320000_5, .slice Ao59 x320001_5.length co59, .slice Ao60 x320002_5.length co60] 24 (0, 0)) (by (with_reducible repeat (first | refine blk_drewN ?_ _ | refine blk_drew ?_ | refine blk_alloc ?_ _)); refine blk_far ?_ NB319_354.out _; (with_reducible repeat (first | refine blk_drewN ?_ _ | refine blk_drew ?_ | refine blk_alloc ?_ _)); refine blk_far ?_ NB319_354.out _; (with_reducible repeat (first | refine blk_drewN ?_ _ | refine blk_drew ?_ | refine blk_alloc ?_ _)); refine blk_far ?_ NB319_354.out _; (with_reducible repeat (first | refine blk_drewN ?_ _ | refine blk_drew ?_ | refine blk_alloc ?_ _)); exact BK319.out) hb); have n10_ := Aside0.mk (blk_below (g := gb345) (o := .cells #[.int .i64 t409, .slice Ao193 t410.length co193, .slice Ao194 t413.length co194] 24 (0, 0)) (by (with_reducible repeat (first | refine blk_drewN ?_ _ | refine blk_drew ?_ | refine blk_alloc ?_ _)); refine blk_far ?_ NB345_354.out _; (with_reducible repeat (first | refine blk_drewN ?_ _ | refine blk_drew ?_ | refine blk_alloc ?_ _)); refine blk_far ?_ NB345_354.out _; (with_reducible repeat (first | refine blk_drewN ?_ _ | refine blk_drew ?_ | refine blk_alloc ?_ _)); refine blk_far ?_ NB345_354.out _; (with_reducible repeat (first | refine blk_drewN ?_ _ | refine blk_drew ?_ | refine blk_alloc ?_ _)); exact BK345.out) hb); have n11_ := Aside0.mk (blk_below (g := gb354) (o := .cells #[.int .i64 t417, .slice Ao200 t418.length co200, .slice Ao201 t421.length co201] 24 (0, 0)) (by (with_reducible repeat (first | refine blk_drewN ?_ _ | refine blk_drew ?_ | refine blk_alloc ?_ _)); refine blk_put (cs := #[.int .i64 t417, .slice Ao200 t418.length co200, .slice Ao170 t404.length co170]) ?_ 2 _ rfl; (with_reducible repeat (first | refine blk_drewN ?_ _ | refine blk_drew ?_ | refine blk_alloc ?_ _)); refine blk_put (cs := #[.int .i64 t417, .slice Ao169 t401.length co169, .slice Ao170 t404.length co170]) ?_ 1 _ rfl; (with_reducible repeat (first | refine blk_drewN ?_ _ | refine blk_drew ?_ | refine blk_alloc ?_ _)); refine blk_put (cs := #[.int .i64 t400, .slice Ao169 t401.length co169, .slice Ao170 t404.length co170]) ?_ 0 _ rfl; (with_reducible repeat (first | refine blk_drewN ?_ _ | refine blk_drew ?_ | refine blk_alloc ?_ _)); exact BK354.out) hb); have n12_ := Aside0.mk (below_step (by repeat (first | (with_reducible first | exact HB.out | apply below_alloc | apply pw_below_drewN | apply below_drew1 | refine below_set ?_ GE318.out | refine below_set ?_ GE319.out | refine below_set ?_ GE345.out | refine below_set ?_ GE354.out) | exact HB.out)) hb); clear HO_319001; clear HO_319002; clear HO_320001; clear HO_320002; clear HO412; clear HO415; clear HO420; clear HO423; clear BK318; clear BK319; clear BK345; clear BK354; clear HB; have HO_319001 := n0_; have HO_319002 := n1_; have HO_320001 := n2_; have HO_320002 := n3_; have HO412 := n4_; have HO415 := n5_; have HO420 := n6_; have HO423 := n7_; have BK318 := n8_; have BK319 := n9_; have BK345 := n10_; have BK354 := n11_; have HB := n12_; clear n0_ n1_ n2_ n3_ n4_ n5_ n6_ n7_ n8_ n9_ n10_ n11_ n12_; (try clear hb); (try clear hb2); (try clear hk); (try clear hi)))
                go_meet
                case rel => exact ⟨_, (!t425), (by first | rfl | (simp; done) | (simp [*]; done)), H', ⟨by have := HJ5.out; have := HJ55.out; have := HJ90.out; have := HJ121.out; have := HJ152.out; first | omega | exact Nat.le_refl _⟩, ⟨by exact pV (Kd.V_mono HO_319001.out (fun _ hk => ⟨hk.1.1, ⟨hk.1.2.1, ⟨hk.1.2.2.1, ⟨hk.2, ⟨hk.1.2.2.2.1, ⟨hk.1.2.2.2.2.1, ⟨hk.1.2.2.2.2.2.1, hk.1.2.2.2.2.2.2⟩⟩⟩⟩⟩⟩⟩))⟩, ⟨by exact pV (Kd.V_mono HO_319002.out (fun _ hk => ⟨hk.1.1, ⟨hk.1.2.1, ⟨hk.1.2.2.1, ⟨hk.2, ⟨hk.1.2.2.2.1, ⟨hk.1.2.2.2.2.1, ⟨hk.1.2.2.2.2.2.1, hk.1.2.2.2.2.2.2⟩⟩⟩⟩⟩⟩⟩))⟩, ⟨by exact pV (Kd.V_mono HO_320001.out (fun _ hk => ⟨hk.1.1, ⟨hk.1.2.1, ⟨hk.1.2.2.1, ⟨hk.2, ⟨hk.1.2.2.2.1, ⟨hk.1.2.2.2.2.1, ⟨hk.1.2.2.2.2.2.1, hk.1.2.2.2.2.2.2⟩⟩⟩⟩⟩⟩⟩))⟩, ⟨by exact pV (Kd.V_mono HO_320002.out (fun _ hk => ⟨hk.1.1, ⟨hk.1.2.1, ⟨hk.1.2.2.1, ⟨hk.2, ⟨hk.1.2.2.2.1, ⟨hk.1.2.2.2.2.1, ⟨hk.1.2.2.2.2.2.1, hk.1.2.2.2.2.2.2⟩⟩⟩⟩⟩⟩⟩))⟩, ⟨by exact pR (Kd.R_mono HO412.out (fun _ hk => ⟨hk.1.1, ⟨hk.1.2, hk.2⟩⟩))⟩, ⟨by exact pR (Kd.R_mono HO415.out (fun _ hk => ⟨hk.1.1, ⟨hk.1.2, hk.2⟩⟩))⟩, ⟨by exact pV (Kd.V_mono HO420.out (fun _ hk => ⟨hk.1, ⟨hk.2.2.1, ⟨hk.2.2.2.1, ⟨hk.2.1, ⟨hk.2.2.2.2.1, ⟨hk.2.2.2.2.2.1, ⟨hk.2.2.2.2.2.2.1, hk.2.2.2.2.2.2.2⟩⟩⟩⟩⟩⟩⟩))⟩, ⟨by exact pR (Kd.R_mono HO423.out (fun _ hk => ⟨hk.1.1.1, ⟨hk.1.2, hk.2⟩⟩))⟩, ⟨by exact pK BK318.out⟩, ⟨by exact pK BK319.out⟩, ⟨by exact pK BK345.out⟩, ⟨by exact pK BK354.out⟩, ⟨by exact pB HB.out⟩⟩
              · rw [if_neg c202] at H
                have c202b0 : (t416 == t424) = false := beq_eq_false_iff_ne.mpr c202
                have c202b1 : (t416 != t424) = true := bne_iff_ne.mpr c202
                (first | rw [c202b0] | (simp only [i64_w, i32_w]; rw [c202b0]) | skip)
                exact absurd H (by cases kj152 <;> simp [customslaw38_ChannelSteps.j8])
            case rest => as_aux_lemma =>
              clear HC184
              try clear c1; try clear c2; try clear p2; try clear c3; try clear p3; try clear q3; try clear hx3; try clear c4; try clear c5; try clear c6; try clear p6; try clear c7; try clear c8; try clear c9; try clear c10; try clear c11; try clear c12; try clear c13; try clear c14; try clear c15; try clear c16; try clear c17; try clear c18; try clear c18b0; try clear c19; try clear c19b0; try clear c20; try clear c20b0; try clear c21; try clear c22; try clear c23; try clear c29; try clear c31; try clear p32; try clear q32; try clear hx32; try clear c33; try clear c33b0; try clear c34; try clear c34b0; try clear c35; try clear c35b0; try clear c37; try clear c38; try clear c47; try clear c52; try clear c57; try clear c63; try clear c64; try clear p64; try clear c72; try clear c73; try clear c74; try clear c78; try clear c78b0; try clear c78b1; try clear c80; try clear c81; try clear c82; try clear c84; try clear c85; try clear c88; try clear c92; try clear c93; try clear c94; try clear c97; try clear c98; try clear c104; try clear c108; try clear c108b0; try clear c108b1; try clear c109; try clear c109b0; try clear c109b1; try clear c111; try clear c112; try clear c113; try clear c115; try clear c116; try clear c119; try clear c123; try clear c124; try clear c125; try clear c128; try clear c129; try clear c136; try clear c140; try clear c140b0; try clear c140b1; try clear c142; try clear c143; try clear c144; try clear c146; try clear c147; try clear c150; try clear c154; try clear c155; try clear c156; try clear c159; try clear c160; try clear c167; try clear c171; try clear c171b0; try clear c171b1; try clear c173; try clear c174; try clear c175; try clear c177; try clear c178; try clear c181; try clear c185; try clear c186; try clear c187; try clear c190; try clear c191; try clear c198; try clear c202; try clear c202b0; try clear c202b1; try clear c204
              try clear c205; try clear c206; try clear c208; try clear c209; try clear hcz102_0; try clear hcz102_1; try clear hcz102_2; try clear hcz105_0; try clear hcz105_1; try clear hcz105_2; try clear hcz114_0; try clear hcz114_1; try clear hcz114_2; try clear hcz117_0; try clear hcz117_1; try clear hcz117_2; try clear hcz11_0; try clear hcz11_1; try clear hcz11_2; try clear hcz126_0; try clear hcz126_1; try clear hcz126_2; try clear hcz130_0; try clear hcz130_1; try clear hcz130_2; try clear hcz134_0; try clear hcz134_1; try clear hcz134_2; try clear hcz137_0; try clear hcz137_1; try clear hcz137_2; try clear hcz145_0; try clear hcz145_1; try clear hcz145_2; try clear hcz148_0; try clear hcz148_1; try clear hcz148_2; try clear hcz157_0; try clear hcz157_1; try clear hcz157_2; try clear hcz161_0; try clear hcz161_1; try clear hcz161_2; try clear hcz165_0; try clear hcz165_1; try clear hcz165_2; try clear hcz168_0; try clear hcz168_1; try clear hcz168_2; try clear hcz16_0; try clear hcz16_1; try clear hcz16_2; try clear hcz176_0; try clear hcz176_1; try clear hcz176_2; try clear hcz179_0; try clear hcz179_1; try clear hcz179_2; try clear hcz17_0; try clear hcz17_1; try clear hcz17_2; try clear hcz188_0; try clear hcz188_1; try clear hcz188_2; try clear hcz192_0; try clear hcz192_1; try clear hcz192_2; try clear hcz196_0; try clear hcz196_1; try clear hcz196_2; try clear hcz199_0; try clear hcz199_1; try clear hcz199_2; try clear hcz207_0; try clear hcz207_1; try clear hcz207_2; try clear hcz210_0; try clear hcz210_1; try clear hcz210_2; try clear hcz24_0; try clear hcz24_1; try clear hcz24_2; try clear hcz30_0; try clear hcz30_1; try clear hcz30_2; try clear hcz32_0; try clear hcz32_1; try clear hcz32_2; try clear hcz39_0; try clear hcz39_1; try clear hcz39_2; try clear hcz48_0; try clear hcz48_1; try clear hcz48_2; try clear hcz53_0; try clear hcz53_1; try clear hcz53_2; try clear hcz58_0; try clear hcz58_1; try clear hcz58_2; try clear hcz65_0; try clear hcz65_1; try clear hcz65_2; try clear hcz69_0; try clear hcz69_1; try clear hcz69_2; try clear hcz75_0; try clear hcz75_1; try clear hcz75_2; try clear hcz83_0; try clear hcz83_1; try clear hcz83_2; try clear hcz86_0; try clear hcz86_1; try clear hcz86_2; try clear hcz8_0; try clear hcz8_1; try clear hcz8_2; try clear hcz95_0; try clear hcz95_1
              try clear hcz95_2; try clear hcz99_0; try clear hcz99_1; try clear hcz99_2; try clear hfz102_0; try clear hfz102_1; try clear hfz102_2; try clear hfz105_0; try clear hfz105_1; try clear hfz105_2; try clear hfz114_0; try clear hfz114_1; try clear hfz114_2; try clear hfz117_0; try clear hfz117_1; try clear hfz117_2; try clear hfz11_0; try clear hfz11_1; try clear hfz11_2; try clear hfz126_0; try clear hfz126_1; try clear hfz126_2; try clear hfz130_0; try clear hfz130_1; try clear hfz130_2; try clear hfz134_0; try clear hfz134_1; try clear hfz134_2; try clear hfz137_0; try clear hfz137_1; try clear hfz137_2; try clear hfz145_0; try clear hfz145_1; try clear hfz145_2; try clear hfz148_0; try clear hfz148_1; try clear hfz148_2; try clear hfz157_0; try clear hfz157_1; try clear hfz157_2; try clear hfz161_0; try clear hfz161_1; try clear hfz161_2; try clear hfz165_0; try clear hfz165_1; try clear hfz165_2; try clear hfz168_0; try clear hfz168_1; try clear hfz168_2; try clear hfz16_0; try clear hfz16_1; try clear hfz16_2; try clear hfz176_0; try clear hfz176_1; try clear hfz176_2; try clear hfz179_0; try clear hfz179_1; try clear hfz179_2; try clear hfz17_0; try clear hfz17_1; try clear hfz17_2; try clear hfz188_0; try clear hfz188_1; try clear hfz188_2; try clear hfz192_0; try clear hfz192_1; try clear hfz192_2; try clear hfz196_0; try clear hfz196_1; try clear hfz196_2; try clear hfz199_0; try clear hfz199_1; try clear hfz199_2; try clear hfz207_0; try clear hfz207_1; try clear hfz207_2; try clear hfz210_0; try clear hfz210_1; try clear hfz210_2; try clear hfz24_0; try clear hfz24_1; try clear hfz24_2; try clear hfz30_0; try clear hfz30_1; try clear hfz30_2; try clear hfz32_0; try clear hfz32_1; try clear hfz32_2; try clear hfz39_0; try clear hfz39_1; try clear hfz39_2; try clear hfz48_0; try clear hfz48_1; try clear hfz48_2; try clear hfz53_0; try clear hfz53_1; try clear hfz53_2; try clear hfz58_0; try clear hfz58_1; try clear hfz58_2; try clear hfz65_0; try clear hfz65_1; try clear hfz65_2; try clear hfz69_0; try clear hfz69_1; try clear hfz69_2; try clear hfz75_0; try clear hfz75_1; try clear hfz75_2; try clear hfz83_0; try clear hfz83_1; try clear hfz83_2; try clear hfz86_0; try clear hfz86_1; try clear hfz86_2; try clear hfz8_0; try clear hfz8_1; try clear hfz8_2; try clear hfz95_0; try clear hfz95_1
              try clear hfz95_2; try clear hfz99_0; try clear hfz99_1; try clear hfz99_2; try clear hx321_0; try clear hx326_0; try clear p2; try clear p3; try clear p32; try clear p321; try clear p326; try clear p6; try clear p64; try clear q3; try clear q32; try clear q321; try clear q326
              obtain ⟨kq, x191_183, rfl, HA, HJ183, HO_319001, HO_319002, HO_320001, HO_320002, HO_346001, HO_346002, HO_355001, HO_355002, BK318, BK319, BK345, BK354, HB⟩ := hcut
              cases kq with
              | zero => exact absurd HA.out (by simp [customslaw38_ChannelSteps.j8])
              | succ kj183 =>
                have H := HA.out
                clear HA
                simp only [customslaw38_ChannelSteps.j8] at H
                have c212 : ¬ (x191_183 = true) := by
                  intro c212
                  rw [if_pos c212] at H
                  exact absurd (Option.some.inj H) (by simp)
                replace c212 := Bool.eq_false_iff.mpr c212
                subst c212
                have H1 : ((channel_Forget.f x320000_5 x320001_5 x320002_5 x2_5).bind fun bt426 => ((customsref33_Forget.f x320000_5 x320001_5 x320002_5 x2_5).bind fun bt434 => (if bt426.2.2.2 = bt434.2.2.2 then ((customsref33_SameLine.f kj183 bt426.1 bt426.2.1 bt426.2.2.1 bt434.1 bt434.2.1 bt434.2.2.1).bind fun t442 => (if t442 = true then ((channel_Idle.f x320000_5 x320001_5 x320002_5 x1_5).bind fun t443 => ((customsref33_Idle.f x320000_5 x320001_5 x320002_5 x1_5).bind fun t444 => (if (t443 == t444) = true then ((customslaw38_awake.f kj183).bind fun t445 => (some t445)) else (some false)))) else (some false))) else (some false)))) = some true := by rw [if_neg (show ¬ (false = true) by decide)] at H; exact H
                clear H
                have H := H1
                clear H1
                replace H := Option.bind_eq_some_iff.mp H
                obtain ⟨⟨t426, t427, t430, t433⟩, A2130, H⟩ := H
                replace H : ((customsref33_Forget.f x320000_5 x320001_5 x320002_5 x2_5).bind fun bt434 => (if t433 = bt434.2.2.2 then ((customsref33_SameLine.f kj183 t426 t427 t430 bt434.1 bt434.2.1 bt434.2.2.1).bind fun t442 => (if t442 = true then ((channel_Idle.f x320000_5 x320001_5 x320002_5 x1_5).bind fun t443 => ((customsref33_Idle.f x320000_5 x320001_5 x320002_5 x1_5).bind fun t444 => (if (t443 == t444) = true then ((customslaw38_awake.f kj183).bind fun t445 => (some t445)) else (some false)))) else (some false))) else (some false))) = some true := H
                have A213 := Aside0.mk A2130
                clear A2130
                replace H := Option.bind_eq_some_iff.mp H
                obtain ⟨⟨t434, t435, t438, t441⟩, A2140, H⟩ := H
                replace H : (if t433 = t441 then ((customsref33_SameLine.f kj183 t426 t427 t430 t434 t435 t438).bind fun t442 => (if t442 = true then ((channel_Idle.f x320000_5 x320001_5 x320002_5 x1_5).bind fun t443 => ((customsref33_Idle.f x320000_5 x320001_5 x320002_5 x1_5).bind fun t444 => (if (t443 == t444) = true then ((customslaw38_awake.f kj183).bind fun t445 => (some t445)) else (some false)))) else (some false))) else (some false)) = some true := H
                have A214 := Aside0.mk A2140
                clear A2140
                by_cases c215 : t433 = t441
                · rw [if_pos c215] at H
                  have c215b0 : (t433 == t441) = true := beq_iff_eq.mpr c215
                  have c215b1 : (t433 != t441) = false := bne_eq_false_iff_eq.mpr c215
                  clear c215
                  replace H := Option.bind_eq_some_iff.mp H
                  obtain ⟨t442, A2160, H⟩ := H
                  replace H : (if t442 = true then ((channel_Idle.f x320000_5 x320001_5 x320002_5 x1_5).bind fun t443 => ((customsref33_Idle.f x320000_5 x320001_5 x320002_5 x1_5).bind fun t444 => (if (t443 == t444) = true then ((customslaw38_awake.f kj183).bind fun t445 => (some t445)) else (some false)))) else (some false)) = some true := H
                  have A216 := Aside0.mk A2160
                  clear A2160
                  by_cases c217 : t442 = true
                  · subst c217
                    have H1 : ((channel_Idle.f x320000_5 x320001_5 x320002_5 x1_5).bind fun t443 => ((customsref33_Idle.f x320000_5 x320001_5 x320002_5 x1_5).bind fun t444 => (if (t443 == t444) = true then ((customslaw38_awake.f kj183).bind fun t445 => (some t445)) else (some false)))) = some true := by rw [if_pos rfl] at H; exact H
                    clear H
                    have H := H1
                    clear H1
                    replace H := Option.bind_eq_some_iff.mp H
                    obtain ⟨t443, A2180, H⟩ := H
                    replace H : ((customsref33_Idle.f x320000_5 x320001_5 x320002_5 x1_5).bind fun t444 => (if (t443 == t444) = true then ((customslaw38_awake.f kj183).bind fun t445 => (some t445)) else (some false))) = some true := H
                    have A218 := Aside0.mk A2180
                    clear A2180
                    replace H := Option.bind_eq_some_iff.mp H
                    obtain ⟨t444, A2190, H⟩ := H
                    replace H : (if (t443 == t444) = true then ((customslaw38_awake.f kj183).bind fun t445 => (some t445)) else (some false)) = some true := H
                    have A219 := Aside0.mk A2190
                    clear A2190
                    by_cases c220 : (t443 == t444) = true
                    · rw [if_pos c220] at H
                      have c220b0 : (t443 == t444) = true := c220
                      (try (have c220b1 : decide (t443 = t444) = true := by simpa using c220))
                      (try (have c220b2 : (t443 == t444) = true := by simpa using c220))
                      clear c220
                      replace H := Option.bind_eq_some_iff.mp H
                      obtain ⟨t445, A2210, H⟩ := H
                      replace H : (some t445) = some true := H
                      have A221 := Aside0.mk A2210
                      clear A2210
                      have HTR := Aside0.mk (Option.some.inj H)
                      clear H
                      have hnb222 := NB319_318.out
                      have hnc222 := NB318_319.out
                      have hnb223 := NB319_345.out
                      have hnc223 := NB345_319.out
                      have hnb224 := NB319_354.out
                      have hnc224 := NB354_319.out
                      have hcz225_0 : wc.cell? ⟨gb319, 0, none⟩ = some (.int .i64 x320000_5) := (blk_cell BK319.out 0).trans rfl
                      have hcz225_1 : wc.cell? ⟨gb319, 1, none⟩ = some (.slice Ao59 x320001_5.length co59) := (blk_cell BK319.out 1).trans rfl
                      have hcz225_2 : wc.cell? ⟨gb319, 2, none⟩ = some (.slice Ao60 x320002_5.length co60) := (blk_cell BK319.out 2).trans rfl
                      have hfz225_0 := blk_frozen BK319.out 0
                      have hfz225_1 := blk_frozen BK319.out 1
                      have hfz225_2 := blk_frozen BK319.out 2
                      try go_wp2_with (first | ((with_reducible refine gate_callee (f := 23) rfl ?_); refine goesL_ (some 195) rfl rfl Try.func23 (by kernel_rfl) rfl #[.agg #[.int .i64 x320000_5, .slice Ao59 x320001_5.length co59, .slice Ao60 x320002_5.length co60], .int .i64 x2_5] rfl (by (try simp only [List.map_toArray, List.map_cons, List.map_nil]); first | done | rfl | (simp only [List.length_drop, List.length_take]; rfl)) ?_; (with_reducible refine (channel_Forget.calls x320000_5 _ _ x320001_5 _ _ x320002_5 x2_5 t426 t427 t430 t433 _ ?side1 ?side2 ?side3 ?side4 A213.out).mono ?_); (case side1 => exact pC (Kd.V_reads' HO_320001.out).2.2); (case side2 => exact (Kd.V_reads' HO_320001.out).2.1); (case side3 => exact pC (Kd.V_reads' HO_320002.out).2.2); (case side4 => exact (Kd.V_reads' HO_320002.out).2.1); rintro e w226 ⟨v428, v431, rfl, ho0, ho1, hb⟩; refine ⟨_, rfl, ?_⟩; have n0_ := Aside0.mk (Kd.V_mono (Kd.V_told (Kd.V_told (Kd.V_old (by exact pV HO_320001.out) hb) (Kd.R_base ho0)) (Kd.R_base ho1)) (fun _ h_ => h_.1)); have n1_ := Aside0.mk (Kd.V_mono (Kd.V_told (Kd.V_told (Kd.V_old (by exact pV HO_320002.out) hb) (Kd.R_base ho0)) (Kd.R_base ho1)) (fun _ h_ => h_.1)); have n2_ := Aside0.mk (Kd.R_lower (Kd.R_newM (M := fun k_ => (w.heap.size ≤ k_)) ho0 (below_size (by exact pB HB.out)) (fun k_ h_ => h_)) (below_size (by exact pB HB.out))); have n3_ := Aside0.mk (Kd.R_lower (Kd.R_newM (M := fun k_ => (w.heap.size ≤ k_)) ho1 (below_size (by exact pB HB.out)) (fun k_ h_ => h_)) (below_size (by exact pB HB.out))); have n4_ := Aside0.mk (blk_below (g := gb319) (o := .cells #[.int .i64 x320000_5, .slice Ao59 x320001_5.length co59, .slice Ao60 x320002_5.length co60] 24 (0, 0)) (by exact pK BK319.out) hb); have n5_ := Aside0.mk (blk_below (g := gb345) (o := .cells #[.int .i64 t409, .slice Ao193 t410.length co193, .slice Ao194 t413.length co194] 24 (0, 0)) (by exact pK BK345.out) hb); have n6_ := Aside0.mk (blk_below (g := gb354) (o := .cells #[.int .i64 t417, .slice Ao200 t418.length co200, .slice Ao201 t421.length co201] 24 (0, 0)) (by exact pK BK354.out) hb); have n7_ := Aside0.mk (below_step (by exact pB HB.out) hb); clear HO_320001; clear HO_320002; clear BK319; clear BK345; clear BK354; clear HB; have HO_320001 := n0_; have HO_320002 := n1_; have HO429 := n2_; have HO432 := n3_; have BK319 := n4_; have BK345 := n5_; have BK354 := n6_; have HB := n7_; clear n0_ n1_ n2_ n3_ n4_ n5_ n6_ n7_; (try clear hb); (try clear hb2); (try clear hk); (try clear hi); (try clear ho0); (try clear ho1); have hnb227 := NB345_354.out; have hnc227 := NB354_345.out; have hcz228_0 : w226.cell? ⟨gb345, 0, none⟩ = some (.int .i64 t409) := (blk_cell BK345.out 0).trans rfl; have hcz228_1 : w226.cell? ⟨gb345, 1, none⟩ = some (.slice Ao193 t410.length co193) := (blk_cell BK345.out 1).trans rfl; have hcz228_2 : w226.cell? ⟨gb345, 2, none⟩ = some (.slice Ao194 t413.length co194) := (blk_cell BK345.out 2).trans rfl; have hfz228_0 := blk_frozen BK345.out 0; have hfz228_1 := blk_frozen BK345.out 1; have hfz228_2 := blk_frozen BK345.out 2; obtain ⟨Ao229, co229, eo229⟩ := Kd.R_slice HO429.out; subst eo229; obtain ⟨Ao230, co230, eo230⟩ := Kd.R_slice HO432.out; subst eo230) | ((with_reducible refine gate_store (t := 24) (p := 14) rfl ?_); refine store_event (t := 24) (p := 14) (v := ?vo_w231) (w1 := (((w226.setCell ⟨gb345, 0, none⟩ (.int .i64 t426)).setCell ⟨gb345, 1, none⟩ (.slice Ao229 t427.length co229)).setCell ⟨gb345, 2, none⟩ (.slice Ao230 t430.length co230))) ?hg ?ho ?hn ?hr ?_; (case ho => rfl); (case hg => rfl); (case hn => rfl); (case hr => first | (go_simp; done) | (go_simp; rfl)); intro w231 hw; have n0_ : Aside0 (Kd.V (Kd.int .i64) 3 w231 w.heap.size (fun k_ => ((P0_1_ k_ ∨ P0_2_ k_) ∨ w.heap.size ≤ k_) ∧ some k_ ≠ (.slice Ao229 t427.length co229 : Value).ownBlock ∧ some k_ ≠ (.slice Ao230 t430.length co230 : Value).ownBlock ∧ k_ ≠ gb318 ∧ k_ ≠ gb319 ∧ k_ ≠ gb345 ∧ k_ ≠ gb354) (.slice Ao59 x320001_5.length co59) x320001_5) := ⟨(by rw [hw]; exact (by (with_reducible repeat (first | apply Kd.V_alloc | apply Kd.V_drewN | apply Kd.V_drew)); exact Kd.V_mono (Kd.V_far (p := ⟨gb345, 2, none⟩) (Kd.V_far (p := ⟨gb345, 1, none⟩) (Kd.V_far (p := ⟨gb345, 0, none⟩) (Kd.V_mono HO_320001.out (fun k_ hk => (⟨hk, hk.1.1.2.2.2.2.2.2.1⟩ : _ ∧ k_ ≠ gb345))) (fun _ hk => hk.2) (.int .i64 t426)) (fun _ hk => hk.2) (.slice Ao229 t427.length co229)) (fun _ hk => hk.2) (.slice Ao230 t430.length co230)) (fun _ hk => ⟨hk.1.1.1.1, ⟨hk.1.1.2, ⟨hk.1.2, ⟨hk.1.1.1.2.2.2.2.1, ⟨hk.1.1.1.2.2.2.2.2.1, ⟨hk.1.1.1.2.2.2.2.2.2.1, hk.1.1.1.2.2.2.2.2.2.2⟩⟩⟩⟩⟩⟩)))⟩; have n1_ : Aside0 (Kd.V (Kd.int .i64) 3 w231 w.heap.size (fun k_ => ((P0_1_ k_ ∨ P0_2_ k_) ∨ w.heap.size ≤ k_) ∧ some k_ ≠ (.slice Ao229 t427.length co229 : Value).ownBlock ∧ some k_ ≠ (.slice Ao230 t430.length co230 : Value).ownBlock ∧ k_ ≠ gb318 ∧ k_ ≠ gb319 ∧ k_ ≠ gb345 ∧ k_ ≠ gb354) (.slice Ao60 x320002_5.length co60) x320002_5) := ⟨(by rw [hw]; exact (by (with_reducible repeat (first | apply Kd.V_alloc | apply Kd.V_drewN | apply Kd.V_drew)); exact Kd.V_mono (Kd.V_far (p := ⟨gb345, 2, none⟩) (Kd.V_far (p := ⟨gb345, 1, none⟩) (Kd.V_far (p := ⟨gb345, 0, none⟩) (Kd.V_mono HO_320002.out (fun k_ hk => (⟨hk, hk.1.1.2.2.2.2.2.2.1⟩ : _ ∧ k_ ≠ gb345))) (fun _ hk => hk.2) (.int .i64 t426)) (fun _ hk => hk.2) (.slice Ao229 t427.length co229)) (fun _ hk => hk.2) (.slice Ao230 t430.length co230)) (fun _ hk => ⟨hk.1.1.1.1, ⟨hk.1.1.2, ⟨hk.1.2, ⟨hk.1.1.1.2.2.2.2.1, ⟨hk.1.1.1.2.2.2.2.2.1, ⟨hk.1.1.1.2.2.2.2.2.2.1, hk.1.1.1.2.2.2.2.2.2.2⟩⟩⟩⟩⟩⟩)))⟩; have n2_ : Aside0 (Kd.R (Kd.int .i64) 3 w231 w.heap.size (fun k_ => (w.heap.size ≤ k_) ∧ some k_ ≠ (.slice Ao230 t430.length co230 : Value).ownBlock) (.slice Ao229 t427.length co229) t427) := ⟨(by rw [hw]; exact (by (with_reducible repeat (first | apply Kd.R_alloc | apply Kd.R_drewN | apply Kd.R_drew)); exact Kd.R_mono (Kd.R_far (p := ⟨gb345, 2, none⟩) (Kd.R_far (p := ⟨gb345, 1, none⟩) (Kd.R_far (p := ⟨gb345, 0, none⟩) (Kd.R_types HO429.out BK345.out (by decide)) (fun _ hk => hk.2) (.int .i64 t426)) (fun _ hk => hk.2) (.slice Ao229 t427.length co229)) (fun _ hk => hk.2) (.slice Ao230 t430.length co230)) (fun _ hk => ⟨hk.1.1, hk.1.2⟩)))⟩; have n3_ : Aside0 (Kd.R (Kd.int .i64) 3 w231 w.heap.size (fun k_ => (w.heap.size ≤ k_) ∧ some k_ ≠ (.slice Ao229 t427.length co229 : Value).ownBlock) (.slice Ao230 t430.length co230) t430) := ⟨(by rw [hw]; exact (by (with_reducible repeat (first | apply Kd.R_alloc | apply Kd.R_drewN | apply Kd.R_drew)); exact Kd.R_mono (Kd.R_far (p := ⟨gb345, 2, none⟩) (Kd.R_far (p := ⟨gb345, 1, none⟩) (Kd.R_far (p := ⟨gb345, 0, none⟩) (Kd.R_types HO432.out BK345.out (by decide)) (fun _ hk => hk.2) (.int .i64 t426)) (fun _ hk => hk.2) (.slice Ao229 t427.length co229)) (fun _ hk => hk.2) (.slice Ao230 t430.length co230)) (fun _ hk => ⟨hk.1.1, hk.1.2⟩)))⟩; have n4_ : Aside0 (w231.heap[gb319]? = some (.cells #[.int .i64 x320000_5, .slice Ao59 x320001_5.length co59, .slice Ao60 x320002_5.length co60] 24 (0, 0))) := ⟨(by rw [hw]; exact (by (with_reducible repeat (first | refine blk_drewN ?_ _ | refine blk_drew ?_ | refine blk_alloc ?_ _)); refine blk_far ?_ NB319_345.out _; (with_reducible repeat (first | refine blk_drewN ?_ _ | refine blk_drew ?_ | refine blk_alloc ?_ _)); refine blk_far ?_ NB319_345.out _; (with_reducible repeat (first | refine blk_drewN ?_ _ | refine blk_drew ?_ | refine blk_alloc ?_ _)); refine blk_far ?_ NB319_345.out _; (with_reducible repeat (first | refine blk_drewN ?_ _ | refine blk_drew ?_ | refine blk_alloc ?_ _)); exact BK319.out))⟩; have n5_ : Aside0 (w231.heap[gb345]? = some (.cells #[.int .i64 t426, .slice Ao229 t427.length co229, .slice Ao230 t430.length co230] 24 (0, 0))) := ⟨(by rw [hw]; exact (by (with_reducible repeat (first | refine blk_drewN ?_ _ | refine blk_drew ?_ | refine blk_alloc ?_ _)); refine blk_put (cs := #[.int .i64 t426, .slice Ao229 t427.length co229, .slice Ao194 t413.length co194]) ?_ 2 _ rfl; (with_reducible repeat (first | refine blk_drewN ?_ _ | refine blk_drew ?_ | refine blk_alloc ?_ _)); refine blk_put (cs := #[.int .i64 t426, .slice Ao193 t410.length co193, .slice Ao194 t413.length co194]) ?_ 1 _ rfl; (with_reducible repeat (first | refine blk_drewN ?_ _ | refine blk_drew ?_ | refine blk_alloc ?_ _)); refine blk_put (cs := #[.int .i64 t409, .slice Ao193 t410.length co193, .slice Ao194 t413.length co194]) ?_ 0 _ rfl; (with_reducible repeat (first | refine blk_drewN ?_ _ | refine blk_drew ?_ | refine blk_alloc ?_ _)); exact BK345.out))⟩; have n6_ : Aside0 (w231.heap[gb354]? = some (.cells #[.int .i64 t417, .slice Ao200 t418.length co200, .slice Ao201 t421.length co201] 24 (0, 0))) := ⟨(by rw [hw]; exact (by (with_reducible repeat (first | refine blk_drewN ?_ _ | refine blk_drew ?_ | refine blk_alloc ?_ _)); refine blk_far ?_ NB354_345.out _; (with_reducible repeat (first | refine blk_drewN ?_ _ | refine blk_drew ?_ | refine blk_alloc ?_ _)); refine blk_far ?_ NB354_345.out _; (with_reducible repeat (first | refine blk_drewN ?_ _ | refine blk_drew ?_ | refine blk_alloc ?_ _)); refine blk_far ?_ NB354_345.out _; (with_reducible repeat (first | refine blk_drewN ?_ _ | refine blk_drew ?_ | refine blk_alloc ?_ _)); exact BK354.out))⟩; have n7_ : Aside0 (Below w.heap.size w w231) := ⟨(by rw [hw]; exact (by repeat (first | (with_reducible first | exact HB.out | apply below_alloc | apply pw_below_drewN | apply below_drew1 | refine below_set ?_ GE319.out | refine below_set ?_ GE345.out | refine below_set ?_ GE354.out) | exact HB.out)))⟩; clear hw; clear HO_320001; clear HO_320002; clear HO429; clear HO432; clear BK319; clear BK345; clear BK354; clear HB; have HO_320001 := n0_; have HO_320002 := n1_; have HO429 := n2_; have HO432 := n3_; have BK319 := n4_; have BK345 := n5_; have BK354 := n6_; have HB := n7_; clear n0_ n1_ n2_ n3_ n4_ n5_ n6_ n7_; have hcz232_0 : w231.cell? ⟨gb319, 0, none⟩ = some (.int .i64 x320000_5) := (blk_cell BK319.out 0).trans rfl; have hcz232_1 : w231.cell? ⟨gb319, 1, none⟩ = some (.slice Ao59 x320001_5.length co59) := (blk_cell BK319.out 1).trans rfl; have hcz232_2 : w231.cell? ⟨gb319, 2, none⟩ = some (.slice Ao60 x320002_5.length co60) := (blk_cell BK319.out 2).trans rfl; have hfz232_0 := blk_frozen BK319.out 0; have hfz232_1 := blk_frozen BK319.out 1; have hfz232_2 := blk_frozen BK319.out 2) | ((with_reducible refine gate_callee (f := 24) rfl ?_); refine goesL_ (some 201) rfl rfl Try.func24 (by kernel_rfl) rfl #[.agg #[.int .i64 x320000_5, .slice Ao59 x320001_5.length co59, .slice Ao60 x320002_5.length co60], .int .i64 x2_5] rfl (by (try simp only [List.map_toArray, List.map_cons, List.map_nil]); first | done | rfl | (simp only [List.length_drop, List.length_take]; rfl)) ?_; (with_reducible refine (customsref33_Forget.calls x320000_5 (fun k_ => (((P0_1_ k_ ∨ P0_2_ k_) ∨ w.heap.size ≤ k_) ∧ (some k_ ≠ (.slice Ao229 t427.length co229 : Value).ownBlock ∧ (some k_ ≠ (.slice Ao230 t430.length co230 : Value).ownBlock ∧ (k_ ≠ gb318 ∧ (k_ ≠ gb319 ∧ (k_ ≠ gb345 ∧ k_ ≠ gb354))))))) _ _ x320001_5 _ _ x320002_5 x2_5 t434 t435 t438 t441 _ ?side1 ?side2 ?side3 A214.out).mono ?_); (case side1 => exact HO_320001.out); (case side2 => exact pC (Kd.V_reads' HO_320002.out).2.2); (case side3 => exact (Kd.V_reads' HO_320002.out).2.1); rintro e w233 ⟨v436, v439, rfl, ho0, ho1, hb⟩; refine ⟨_, rfl, ?_⟩; have n0_ := Aside0.mk (Kd.V_elder' (by exact pV HO_320001.out) (Kd.R_base ho1) hb); have n1_ := Aside0.mk (Kd.V_elder' (by exact pV HO_320002.out) (Kd.R_base ho1) hb); have n2_ := Aside0.mk (Kd.R_elder' (by exact pR HO429.out) (Kd.R_base ho1) hb); have n3_ := Aside0.mk (Kd.R_elder' (by exact pR HO432.out) (Kd.R_base ho1) hb); have n4_ := Aside0.mk (Kd.V_lower (Kd.V_mono (ok' := fun k_ => ((P0_1_ k_ ∨ P0_2_ k_) ∨ w.heap.size ≤ k_) ∧ some k_ ≠ (v439 : Value).ownBlock ∧ some k_ ≠ (.slice Ao229 t427.length co229 : Value).ownBlock ∧ some k_ ≠ (.slice Ao230 t430.length co230 : Value).ownBlock ∧ k_ ≠ gb319 ∧ k_ ≠ gb345 ∧ k_ ≠ gb354) ho0 (fun k_ hk_ => ⟨Or.elim hk_.1 (fun hs_ => hs_.1) (fun hn_ => (.inr (Nat.le_trans (below_size (by exact pB HB.out)) hn_))), hk_.2, Or.elim hk_.1 (fun hs_ => hs_.2.1) (fun hn_ => (Kd.fresh' (Kd.R_lt (by exact pR HO429.out)) k_ hn_)), Or.elim hk_.1 (fun hs_ => hs_.2.2.1) (fun hn_ => (Kd.fresh' (Kd.R_lt (by exact pR HO432.out)) k_ hn_)), Or.elim hk_.1 (fun hs_ => hs_.2.2.2.2.1) (fun hn_ => (Kd.freshB (g := gb319) (o := .cells #[.int .i64 x320000_5, .slice Ao59 x320001_5.length co59, .slice Ao60 x320002_5.length co60] 24 (0, 0)) (by exact pK BK319.out) k_ hn_)), Or.elim hk_.1 (fun hs_ => hs_.2.2.2.2.2.1) (fun hn_ => (Kd.freshB (g := gb345) (o := .cells #[.int .i64 t426, .slice Ao229 t427.length co229, .slice Ao230 t430.length co230] 24 (0, 0)) (by exact pK BK345.out) k_ hn_)), Or.elim hk_.1 (fun hs_ => hs_.2.2.2.2.2.2) (fun hn_ => (Kd.freshB (g := gb354) (o := .cells #[.int .i64 t417, .slice Ao200 t418.length co200, .slice Ao201 t421.length co201] 24 (0, 0)) (by exact pK BK354.out) k_ hn_))⟩)) (below_size (by exact pB HB.out))); have n5_ := Aside0.mk (Kd.R_lower (Kd.R_new' (Kd.R_new' (Kd.R_newM (M := fun k_ => (w.heap.size ≤ k_)) (Kd.R_mono (ok' := fun k_ => True) ho1 (fun _ hk_ => trivial)) (below_size (by exact pB HB.out)) (fun k_ h_ => h_)) (Kd.R_lt (by exact pR HO429.out))) (Kd.R_lt (by exact pR HO432.out))) (below_size (by exact pB HB.out))); have n6_ := Aside0.mk (blk_below (g := gb319) (o := .cells #[.int .i64 x320000_5, .slice Ao59 x320001_5.length co59, .slice Ao60 x320002_5.length co60] 24 (0, 0)) (by exact pK BK319.out) hb); have n7_ := Aside0.mk (blk_below (g := gb345) (o := .cells #[.int .i64 t426, .slice Ao229 t427.length co229, .slice Ao230 t430.length co230] 24 (0, 0)) (by exact pK BK345.out) hb); have n8_ := Aside0.mk (blk_below (g := gb354) (o := .cells #[.int .i64 t417, .slice Ao200 t418.length co200, .slice Ao201 t421.length co201] 24 (0, 0)) (by exact pK BK354.out) hb); have n9_ := Aside0.mk (below_step (by exact pB HB.out) hb); clear HO_320001; clear HO_320002; clear HO429; clear HO432; clear BK319; clear BK345; clear BK354; clear HB; have HO_320001 := n0_; have HO_320002 := n1_; have HO429 := n2_; have HO432 := n3_; have HO437 := n4_; have HO440 := n5_; have BK319 := n6_; have BK345 := n7_; have BK354 := n8_; have HB := n9_; clear n0_ n1_ n2_ n3_ n4_ n5_ n6_ n7_ n8_ n9_; (try clear hb); (try clear hb2); (try clear hk); (try clear hi); (try clear ho0); (try clear ho1); have hcz234_0 : w233.cell? ⟨gb354, 0, none⟩ = some (.int .i64 t417) := (blk_cell BK354.out 0).trans rfl; have hcz234_1 : w233.cell? ⟨gb354, 1, none⟩ = some (.slice Ao200 t418.length co200) := (blk_cell BK354.out 1).trans rfl; have hcz234_2 : w233.cell? ⟨gb354, 2, none⟩ = some (.slice Ao201 t421.length co201) := (blk_cell BK354.out 2).trans rfl; have hfz234_0 := blk_frozen BK354.out 0; have hfz234_1 := blk_frozen BK354.out 1; have hfz234_2 := blk_frozen BK354.out 2; obtain ⟨Ao235, co235, eo235⟩ := Kd.V_slice HO437.out; subst eo235; obtain ⟨Ao236, co236, eo236⟩ := Kd.R_slice HO440.out; subst eo236))
                      have n0_ : Aside0 (Kd.V (Kd.int .i64) 3 (((w233.setCell ⟨gb354, 0, none⟩ (.int .i64 t434)).setCell ⟨gb354, 1, none⟩ (.slice Ao235 t435.length co235)).setCell ⟨gb354, 2, none⟩ (.slice Ao236 t438.length co236)) w.heap.size (fun k_ => ((P0_1_ k_ ∨ P0_2_ k_) ∨ w.heap.size ≤ k_) ∧ some k_ ≠ (.slice Ao229 t427.length co229 : Value).ownBlock ∧ some k_ ≠ (.slice Ao230 t430.length co230 : Value).ownBlock ∧ some k_ ≠ (.slice Ao236 t438.length co236 : Value).ownBlock ∧ k_ ≠ gb318 ∧ k_ ≠ gb319 ∧ k_ ≠ gb345 ∧ k_ ≠ gb354) (.slice Ao59 x320001_5.length co59) x320001_5) := ⟨by (with_reducible repeat (first | apply Kd.V_alloc | apply Kd.V_drewN | apply Kd.V_drew)); exact Kd.V_mono (Kd.V_far (p := ⟨gb354, 2, none⟩) (Kd.V_far (p := ⟨gb354, 1, none⟩) (Kd.V_far (p := ⟨gb354, 0, none⟩) (Kd.V_mono HO_320001.out (fun k_ hk => (⟨hk, hk.1.2.2.2.2.2.2⟩ : _ ∧ k_ ≠ gb354))) (fun _ hk => hk.2) (.int .i64 t434)) (fun _ hk => hk.2) (.slice Ao235 t435.length co235)) (fun _ hk => hk.2) (.slice Ao236 t438.length co236)) (fun _ hk => ⟨hk.1.1.1, ⟨hk.1.1.2.1, ⟨hk.1.1.2.2.1, ⟨hk.1.2, ⟨hk.1.1.2.2.2.1, ⟨hk.1.1.2.2.2.2.1, ⟨hk.1.1.2.2.2.2.2.1, hk.1.1.2.2.2.2.2.2⟩⟩⟩⟩⟩⟩⟩)⟩
                      have n1_ : Aside0 (Kd.V (Kd.int .i64) 3 (((w233.setCell ⟨gb354, 0, none⟩ (.int .i64 t434)).setCell ⟨gb354, 1, none⟩ (.slice Ao235 t435.length co235)).setCell ⟨gb354, 2, none⟩ (.slice Ao236 t438.length co236)) w.heap.size (fun k_ => ((P0_1_ k_ ∨ P0_2_ k_) ∨ w.heap.size ≤ k_) ∧ some k_ ≠ (.slice Ao229 t427.length co229 : Value).ownBlock ∧ some k_ ≠ (.slice Ao230 t430.length co230 : Value).ownBlock ∧ some k_ ≠ (.slice Ao236 t438.length co236 : Value).ownBlock ∧ k_ ≠ gb318 ∧ k_ ≠ gb319 ∧ k_ ≠ gb345 ∧ k_ ≠ gb354) (.slice Ao60 x320002_5.length co60) x320002_5) := ⟨by (with_reducible repeat (first | apply Kd.V_alloc | apply Kd.V_drewN | apply Kd.V_drew)); exact Kd.V_mono (Kd.V_far (p := ⟨gb354, 2, none⟩) (Kd.V_far (p := ⟨gb354, 1, none⟩) (Kd.V_far (p := ⟨gb354, 0, none⟩) (Kd.V_mono HO_320002.out (fun k_ hk => (⟨hk, hk.1.2.2.2.2.2.2⟩ : _ ∧ k_ ≠ gb354))) (fun _ hk => hk.2) (.int .i64 t434)) (fun _ hk => hk.2) (.slice Ao235 t435.length co235)) (fun _ hk => hk.2) (.slice Ao236 t438.length co236)) (fun _ hk => ⟨hk.1.1.1, ⟨hk.1.1.2.1, ⟨hk.1.1.2.2.1, ⟨hk.1.2, ⟨hk.1.1.2.2.2.1, ⟨hk.1.1.2.2.2.2.1, ⟨hk.1.1.2.2.2.2.2.1, hk.1.1.2.2.2.2.2.2⟩⟩⟩⟩⟩⟩⟩)⟩
                      have n2_ : Aside0 (Kd.R (Kd.int .i64) 3 (((w233.setCell ⟨gb354, 0, none⟩ (.int .i64 t434)).setCell ⟨gb354, 1, none⟩ (.slice Ao235 t435.length co235)).setCell ⟨gb354, 2, none⟩ (.slice Ao236 t438.length co236)) w.heap.size (fun k_ => (w.heap.size ≤ k_) ∧ some k_ ≠ (.slice Ao230 t430.length co230 : Value).ownBlock ∧ some k_ ≠ (.slice Ao236 t438.length co236 : Value).ownBlock) (.slice Ao229 t427.length co229) t427) := ⟨by (with_reducible repeat (first | apply Kd.R_alloc | apply Kd.R_drewN | apply Kd.R_drew)); exact Kd.R_mono (Kd.R_far (p := ⟨gb354, 2, none⟩) (Kd.R_far (p := ⟨gb354, 1, none⟩) (Kd.R_far (p := ⟨gb354, 0, none⟩) (Kd.R_types HO429.out BK354.out (by decide)) (fun _ hk => hk.2) (.int .i64 t434)) (fun _ hk => hk.2) (.slice Ao235 t435.length co235)) (fun _ hk => hk.2) (.slice Ao236 t438.length co236)) (fun _ hk => ⟨hk.1.1.1, ⟨hk.1.1.2, hk.1.2⟩⟩)⟩
                      have n3_ : Aside0 (Kd.R (Kd.int .i64) 3 (((w233.setCell ⟨gb354, 0, none⟩ (.int .i64 t434)).setCell ⟨gb354, 1, none⟩ (.slice Ao235 t435.length co235)).setCell ⟨gb354, 2, none⟩ (.slice Ao236 t438.length co236)) w.heap.size (fun k_ => (w.heap.size ≤ k_) ∧ some k_ ≠ (.slice Ao229 t427.length co229 : Value).ownBlock ∧ some k_ ≠ (.slice Ao236 t438.length co236 : Value).ownBlock) (.slice Ao230 t430.length co230) t430) := ⟨by (with_reducible repeat (first | apply Kd.R_alloc | apply Kd.R_drewN | apply Kd.R_drew)); exact Kd.R_mono (Kd.R_far (p := ⟨gb354, 2, none⟩) (Kd.R_far (p := ⟨gb354, 1, none⟩) (Kd.R_far (p := ⟨gb354, 0, none⟩) (Kd.R_types HO432.out BK354.out (by decide)) (fun _ hk => hk.2) (.int .i64 t434)) (fun _ hk => hk.2) (.slice Ao235 t435.length co235)) (fun _ hk => hk.2) (.slice Ao236 t438.length co236)) (fun _ hk => ⟨hk.1.1.1, ⟨hk.1.1.2, hk.1.2⟩⟩)⟩
                      have n4_ : Aside0 (Kd.V (Kd.int .i64) 3 (((w233.setCell ⟨gb354, 0, none⟩ (.int .i64 t434)).setCell ⟨gb354, 1, none⟩ (.slice Ao235 t435.length co235)).setCell ⟨gb354, 2, none⟩ (.slice Ao236 t438.length co236)) w.heap.size (fun k_ => ((P0_1_ k_ ∨ P0_2_ k_) ∨ w.heap.size ≤ k_) ∧ some k_ ≠ (.slice Ao229 t427.length co229 : Value).ownBlock ∧ some k_ ≠ (.slice Ao230 t430.length co230 : Value).ownBlock ∧ some k_ ≠ (.slice Ao236 t438.length co236 : Value).ownBlock ∧ k_ ≠ gb319 ∧ k_ ≠ gb345 ∧ k_ ≠ gb354) (.slice Ao235 t435.length co235) t435) := ⟨by (with_reducible repeat (first | apply Kd.V_alloc | apply Kd.V_drewN | apply Kd.V_drew)); exact Kd.V_mono (Kd.V_far (p := ⟨gb354, 2, none⟩) (Kd.V_far (p := ⟨gb354, 1, none⟩) (Kd.V_far (p := ⟨gb354, 0, none⟩) (Kd.V_mono HO437.out (fun k_ hk => (⟨hk, hk.2.2.2.2.2.2⟩ : _ ∧ k_ ≠ gb354))) (fun _ hk => hk.2) (.int .i64 t434)) (fun _ hk => hk.2) (.slice Ao235 t435.length co235)) (fun _ hk => hk.2) (.slice Ao236 t438.length co236)) (fun _ hk => ⟨hk.1.1, ⟨hk.1.2.2.1, ⟨hk.1.2.2.2.1, ⟨hk.1.2.1, ⟨hk.1.2.2.2.2.1, ⟨hk.1.2.2.2.2.2.1, hk.1.2.2.2.2.2.2⟩⟩⟩⟩⟩⟩)⟩
                      have n5_ : Aside0 (Kd.R (Kd.int .i64) 3 (((w233.setCell ⟨gb354, 0, none⟩ (.int .i64 t434)).setCell ⟨gb354, 1, none⟩ (.slice Ao235 t435.length co235)).setCell ⟨gb354, 2, none⟩ (.slice Ao236 t438.length co236)) w.heap.size (fun k_ => (w.heap.size ≤ k_) ∧ some k_ ≠ (.slice Ao229 t427.length co229 : Value).ownBlock ∧ some k_ ≠ (.slice Ao230 t430.length co230 : Value).ownBlock) (.slice Ao236 t438.length co236) t438) := ⟨by (with_reducible repeat (first | apply Kd.R_alloc | apply Kd.R_drewN | apply Kd.R_drew)); exact Kd.R_mono (Kd.R_far (p := ⟨gb354, 2, none⟩) (Kd.R_far (p := ⟨gb354, 1, none⟩) (Kd.R_far (p := ⟨gb354, 0, none⟩) (Kd.R_types HO440.out BK354.out (by decide)) (fun _ hk => hk.2) (.int .i64 t434)) (fun _ hk => hk.2) (.slice Ao235 t435.length co235)) (fun _ hk => hk.2) (.slice Ao236 t438.length co236)) (fun _ hk => ⟨hk.1.1.1.1, ⟨hk.1.1.2, hk.1.2⟩⟩)⟩
                      have n6_ : Aside0 ((((w233.setCell ⟨gb354, 0, none⟩ (.int .i64 t434)).setCell ⟨gb354, 1, none⟩ (.slice Ao235 t435.length co235)).setCell ⟨gb354, 2, none⟩ (.slice Ao236 t438.length co236)).heap[gb319]? = some (.cells #[.int .i64 x320000_5, .slice Ao59 x320001_5.length co59, .slice Ao60 x320002_5.length co60] 24 (0, 0))) := ⟨by (with_reducible repeat (first | refine blk_drewN ?_ _ | refine blk_drew ?_ | refine blk_alloc ?_ _)); refine blk_far ?_ NB319_354.out _; (with_reducible repeat (first | refine blk_drewN ?_ _ | refine blk_drew ?_ | refine blk_alloc ?_ _)); refine blk_far ?_ NB319_354.out _; (with_reducible repeat (first | refine blk_drewN ?_ _ | refine blk_drew ?_ | refine blk_alloc ?_ _)); refine blk_far ?_ NB319_354.out _; (with_reducible repeat (first | refine blk_drewN ?_ _ | refine blk_drew ?_ | refine blk_alloc ?_ _)); exact BK319.out⟩
                      have n7_ : Aside0 ((((w233.setCell ⟨gb354, 0, none⟩ (.int .i64 t434)).setCell ⟨gb354, 1, none⟩ (.slice Ao235 t435.length co235)).setCell ⟨gb354, 2, none⟩ (.slice Ao236 t438.length co236)).heap[gb345]? = some (.cells #[.int .i64 t426, .slice Ao229 t427.length co229, .slice Ao230 t430.length co230] 24 (0, 0))) := ⟨by (with_reducible repeat (first | refine blk_drewN ?_ _ | refine blk_drew ?_ | refine blk_alloc ?_ _)); refine blk_far ?_ NB345_354.out _; (with_reducible repeat (first | refine blk_drewN ?_ _ | refine blk_drew ?_ | refine blk_alloc ?_ _)); refine blk_far ?_ NB345_354.out _; (with_reducible repeat (first | refine blk_drewN ?_ _ | refine blk_drew ?_ | refine blk_alloc ?_ _)); refine blk_far ?_ NB345_354.out _; (with_reducible repeat (first | refine blk_drewN ?_ _ | refine blk_drew ?_ | refine blk_alloc ?_ _)); exact BK345.out⟩
                      have n8_ : Aside0 ((((w233.setCell ⟨gb354, 0, none⟩ (.int .i64 t434)).setCell ⟨gb354, 1, none⟩ (.slice Ao235 t435.length co235)).setCell ⟨gb354, 2, none⟩ (.slice Ao236 t438.length co236)).heap[gb354]? = some (.cells #[.int .i64 t434, .slice Ao235 t435.length co235, .slice Ao236 t438.length co236] 24 (0, 0))) := ⟨by (with_reducible repeat (first | refine blk_drewN ?_ _ | refine blk_drew ?_ | refine blk_alloc ?_ _)); refine blk_put (cs := #[.int .i64 t434, .slice Ao235 t435.length co235, .slice Ao201 t421.length co201]) ?_ 2 _ rfl; (with_reducible repeat (first | refine blk_drewN ?_ _ | refine blk_drew ?_ | refine blk_alloc ?_ _)); refine blk_put (cs := #[.int .i64 t434, .slice Ao200 t418.length co200, .slice Ao201 t421.length co201]) ?_ 1 _ rfl; (with_reducible repeat (first | refine blk_drewN ?_ _ | refine blk_drew ?_ | refine blk_alloc ?_ _)); refine blk_put (cs := #[.int .i64 t417, .slice Ao200 t418.length co200, .slice Ao201 t421.length co201]) ?_ 0 _ rfl; (with_reducible repeat (first | refine blk_drewN ?_ _ | refine blk_drew ?_ | refine blk_alloc ?_ _)); exact BK354.out⟩
                      have n9_ : Aside0 (Below w.heap.size w (((w233.setCell ⟨gb354, 0, none⟩ (.int .i64 t434)).setCell ⟨gb354, 1, none⟩ (.slice Ao235 t435.length co235)).setCell ⟨gb354, 2, none⟩ (.slice Ao236 t438.length co236))) := ⟨by repeat (first | (with_reducible first | exact HB.out | apply below_alloc | apply pw_below_drewN | apply below_drew1 | refine below_set ?_ GE319.out | refine below_set ?_ GE345.out | refine below_set ?_ GE354.out) | exact HB.out)⟩
                      (try clear HO_320001)
                      (try clear HO_320002)
                      (try clear HO429)
                      (try clear HO432)
                      (try clear HO437)
                      (try clear HO440)
                      (try clear BK319)
                      (try clear BK345)
                      (try clear BK354)
                      (try clear HB)
                      generalize (((w233.setCell ⟨gb354, 0, none⟩ (.int .i64 t434)).setCell ⟨gb354, 1, none⟩ (.slice Ao235 t435.length co235)).setCell ⟨gb354, 2, none⟩ (.slice Ao236 t438.length co236)) = w237 at n0_ n1_ n2_ n3_ n4_ n5_ n6_ n7_ n8_ n9_ ⊢
                      have HO_320001 := n0_
                      have HO_320002 := n1_
                      have HO429 := n2_
                      have HO432 := n3_
                      have HO437 := n4_
                      have HO440 := n5_
                      have BK319 := n6_
                      have BK345 := n7_
                      have BK354 := n8_
                      have HB := n9_
                      clear n0_ n1_ n2_ n3_ n4_ n5_ n6_ n7_ n8_ n9_
                      have n0_ := Aside0.mk (Kd.V_drew HO_320001.out)
                      have n1_ := Aside0.mk (Kd.V_drew HO_320002.out)
                      have n2_ := Aside0.mk (Kd.R_drew HO429.out)
                      have n3_ := Aside0.mk (Kd.R_drew HO432.out)
                      have n4_ := Aside0.mk (Kd.V_drew HO437.out)
                      have n5_ := Aside0.mk (Kd.R_drew HO440.out)
                      have n6_ := Aside0.mk (blk_drew BK319.out)
                      have n7_ := Aside0.mk (blk_drew BK345.out)
                      have n8_ := Aside0.mk (blk_drew BK354.out)
                      have n9_ := Aside0.mk (below_drew1 HB.out)
                      clear HO_320001
                      clear HO_320002
                      clear HO429
                      clear HO432
                      clear HO437
                      clear HO440
                      clear BK319
                      clear BK345
                      clear BK354
                      clear HB
                      have HO_320001 := n0_
                      have HO_320002 := n1_
                      have HO429 := n2_
                      have HO432 := n3_
                      have HO437 := n4_
                      have HO440 := n5_
                      have BK319 := n6_
                      have BK345 := n7_
                      have BK354 := n8_
                      have HB := n9_
                      clear n0_ n1_ n2_ n3_ n4_ n5_ n6_ n7_ n8_ n9_
                      refine start_ (n := 21) (S := fun w' => w'.cell? ⟨gb345, 0, none⟩ = some (.int .i64 t426) ∧ w'.cell? ⟨gb345, 1, none⟩ = some (.slice Ao229 t427.length co229) ∧ w'.cell? ⟨gb345, 2, none⟩ = some (.slice Ao230 t430.length co230) ∧ w'.cell? ⟨gb354, 0, none⟩ = some (.int .i64 t434) ∧ w'.cell? ⟨gb354, 1, none⟩ = some (.slice Ao235 t435.length co235) ∧ w'.cell? ⟨gb354, 2, none⟩ = some (.slice Ao236 t438.length co236) ∧ w'.cell? ⟨gb319, 0, none⟩ = some (.int .i64 x320000_5) ∧ w'.cell? ⟨gb319, 1, none⟩ = some (.slice Ao59 x320001_5.length co59) ∧ w'.cell? ⟨gb319, 2, none⟩ = some (.slice Ao60 x320002_5.length co60)) (ds := []) #[false, false, false, false, false, false, false, false, false, false, false, false, false, false, false, false, false, false, false, false, false] (by kernel_rfl) rfl rfl ⟨(blk_cell BK345.out 0).trans rfl, (blk_cell BK345.out 1).trans rfl, (blk_cell BK345.out 2).trans rfl, (blk_cell BK354.out 0).trans rfl, (blk_cell BK354.out 1).trans rfl, (blk_cell BK354.out 2).trans rfl, (blk_cell BK319.out 0).trans rfl, (blk_cell BK319.out 1).trans rfl, (blk_cell BK319.out 2).trans rfl⟩ (fun hHeld => ?_); refine with_tabW customslaw38_ChannelSteps.tab35 customslaw38_ChannelSteps.bits35 (fun HT_ HW_ => ?_)
                      generalize w237.drew = w238 at HO_320001 HO_320002 HO429 HO432 HO437 HO440 BK319 BK345 BK354 HB hHeld ⊢
                      refine pure_ (i := 0) (N := some 204) (v := ?_) (a' := ?_) #[true, false, false, false, false, false, false, false, false, false, false, false, false, false, false, false, false, false, false, false, false] rfl rfl (any_of HT_.out (by kernel_rfl)) (fun _ _ _ h => h) (Or.inl ⟨by rfl, ?_⟩) ?_ ?_
                      rotate_left
                      · intro w'
                        go_simp
                        with_reducible rfl
                      rotate_left
                      · simp only [Act.put, List.setIfInBounds_toArray, List.set_cons_zero, List.set_cons_succ, i64_w, i32_w]
                        rfl
                      refine pure_ (i := 1) (N := some 205) (v := ?_) (a' := ?_) #[true, true, false, false, false, false, false, false, false, false, false, false, false, false, false, false, false, false, false, false, false] rfl rfl (any_of HT_.out (by kernel_rfl)) (fun _ _ _ h => h) (Or.inl ⟨by rfl, ?_⟩) ?_ ?_
                      rotate_left
                      · intro w'
                        go_simp
                        with_reducible rfl
                      rotate_left
                      · simp only [Act.put, List.setIfInBounds_toArray, List.set_cons_zero, List.set_cons_succ, i64_w, i32_w]
                        rfl
                      refine pure_ (i := 2) (N := some 206) (v := ?_) (a' := ?_) #[true, true, true, false, false, false, false, false, false, false, false, false, false, false, false, false, false, false, false, false, false] rfl rfl (any_of HT_.out (by kernel_rfl)) (fun _ _ _ h => h) (Or.inl ⟨by rfl, ?_⟩) ?_ ?_
                      rotate_left
                      · intro w'
                        go_simp
                        with_reducible rfl
                      rotate_left
                      · simp only [Act.put, List.setIfInBounds_toArray, List.set_cons_zero, List.set_cons_succ, i64_w, i32_w]
                        rfl
                      refine pure_ (i := 3) (N := some 207) (v := ?_) (a' := ?_) #[true, true, true, true, false, false, false, false, false, false, false, false, false, false, false, false, false, false, false, false, false] rfl rfl (any_of HT_.out (by kernel_rfl)) (fun _ _ _ h => h) (Or.inl ⟨by rfl, ?_⟩) ?_ ?_
                      rotate_left
                      · intro w'
                        go_simp
                        with_reducible rfl
                      rotate_left
                      · simp only [Act.put, List.setIfInBounds_toArray, List.set_cons_zero, List.set_cons_succ, i64_w, i32_w]
                        rfl
                      refine take_ (i := 4) (N := some 208) (v := ?_) (a' := ?_) #[true, true, true, true, true, false, false, false, false, false, false, false, false, false, false, false, false, false, false, false, false] rfl rfl (take_ofW HT_.out HW_.out (by kernel_rfl)) (fun _ _ _ h => h) (Or.inl ⟨by rfl, ?_⟩) hHeld ?_ ?_
                      rotate_left
                      · rintro w' ⟨s0, s1, s2, s3, s4, s5, s6, s7, s8⟩
                        go_simp
                        with_reducible rfl
                      rotate_left
                      · simp only [Act.put, List.setIfInBounds_toArray, List.set_cons_zero, List.set_cons_succ, i64_w, i32_w]
                        rfl
                      refine take_ (i := 5) (N := some 209) (v := ?_) (a' := ?_) #[true, true, true, true, true, true, false, false, false, false, false, false, false, false, false, false, false, false, false, false, false] rfl rfl (take_ofW HT_.out HW_.out (by kernel_rfl)) (fun _ _ _ h => h) (Or.inl ⟨by rfl, ?_⟩) hHeld ?_ ?_
                      rotate_left
                      · rintro w' ⟨s0, s1, s2, s3, s4, s5, s6, s7, s8⟩
                        go_simp
                        with_reducible rfl
                      rotate_left
                      · simp only [Act.put, List.setIfInBounds_toArray, List.set_cons_zero, List.set_cons_succ, i64_w, i32_w]
                        rfl
                      refine one_ (i := 6) (N := some 210) #[true, true, true, true, true, true, true, false, false, false, false, false, false, false, false, false, false, false, false, false, false] rfl rfl (one_of HT_.out (by kernel_rfl)) (by decide) (fun K hK => ?_)
                      refine goes_ Try.func10 (by kernel_rfl) rfl #[.agg #[.int .i64 t426, .slice Ao229 t427.length co229, .slice Ao230 t430.length co230], .agg #[.int .i64 t434, .slice Ao235 t435.length co235, .slice Ao236 t438.length co236]] (by rfl) rfl rfl (by (try simp only [List.map_toArray, List.map_cons, List.map_nil]); first | done | rfl | (simp only [List.length_drop, List.length_take]; rfl)) ?_
                      with_reducible refine (customsref33_SameLine.calls kj183 t426 _ _ t427 _ _ t430 t434 _ _ t435 _ _ t438 true _ ?side1 ?side2 ?side3 ?side4 ?side5 ?side6 ?side7 ?side8 A216.out).mono ?_
                      (case side1 => exact pC (Kd.R_reads' HO429.out).2.2)
                      (case side2 => exact (Kd.R_reads' HO429.out).2.1)
                      (case side3 => exact pC (Kd.R_reads' HO432.out).2.2)
                      (case side4 => exact (Kd.R_reads' HO432.out).2.1)
                      (case side5 => exact pC (Kd.V_reads' HO437.out).2.2)
                      (case side6 => exact (Kd.V_reads' HO437.out).2.1)
                      (case side7 => exact pC (Kd.R_reads' HO440.out).2.2)
                      (case side8 => exact (Kd.R_reads' HO440.out).2.1)
                      rintro e w239 ⟨rfl, hb⟩
                      refine ⟨_, rfl, ?_⟩
                      have n0_ := Aside0.mk (Kd.V_below (by exact pV HO_320001.out) hb)
                      have n1_ := Aside0.mk (Kd.V_below (by exact pV HO_320002.out) hb)
                      have n2_ := Aside0.mk (Kd.R_below (by exact pR HO429.out) hb)
                      have n3_ := Aside0.mk (Kd.R_below (by exact pR HO432.out) hb)
                      have n4_ := Aside0.mk (Kd.V_below (by exact pV HO437.out) hb)
                      have n5_ := Aside0.mk (Kd.R_below (by exact pR HO440.out) hb)
                      have n6_ := Aside0.mk (blk_below (g := gb319) (o := .cells #[.int .i64 x320000_5, .slice Ao59 x320001_5.length co59, .slice Ao60 x320002_5.length co60] 24 (0, 0)) (by exact pK BK319.out) hb)
                      have n7_ := Aside0.mk (blk_below (g := gb345) (o := .cells #[.int .i64 t426, .slice Ao229 t427.length co229, .slice Ao230 t430.length co230] 24 (0, 0)) (by exact pK BK345.out) hb)
                      have n8_ := Aside0.mk (blk_below (g := gb354) (o := .cells #[.int .i64 t434, .slice Ao235 t435.length co235, .slice Ao236 t438.length co236] 24 (0, 0)) (by exact pK BK354.out) hb)
                      have n9_ := Aside0.mk (below_step (by exact pB HB.out) hb)
                      clear HO_320001
                      clear HO_320002
                      clear HO429
                      clear HO432
                      clear HO437
                      clear HO440
                      clear BK319
                      clear BK345
                      clear BK354
                      clear HB
                      have HO_320001 := n0_
                      have HO_320002 := n1_
                      have HO429 := n2_
                      have HO432 := n3_
                      have HO437 := n4_
                      have HO440 := n5_
                      have BK319 := n6_
                      have BK345 := n7_
                      have BK354 := n8_
                      have HB := n9_
                      clear n0_ n1_ n2_ n3_ n4_ n5_ n6_ n7_ n8_ n9_
                      (try clear hb)
                      (try clear hb2)
                      (try clear hk)
                      (try clear hi)
                      refine hK.out _ _ ⟨(blk_cell BK345.out 0).trans rfl, (blk_cell BK345.out 1).trans rfl, (blk_cell BK345.out 2).trans rfl, (blk_cell BK354.out 0).trans rfl, (blk_cell BK354.out 1).trans rfl, (blk_cell BK354.out 2).trans rfl, (blk_cell BK319.out 0).trans rfl, (blk_cell BK319.out 1).trans rfl, (blk_cell BK319.out 2).trans rfl⟩ (fun hHeld => ?_)
                      clear hK K
                      refine norm_ (a' := ?_) ?_ ?_
                      rotate_left
                      · show Act.put _ (some 210) _ = _
                        simp only [Act.put, List.setIfInBounds_toArray, List.set_cons_zero, List.set_cons_succ, i64_w, i32_w]
                        rfl
                      refine pure_ (i := 7) (N := some 211) (v := ?_) (a' := ?_) #[true, true, true, true, true, true, true, true, false, false, false, false, false, false, false, false, false, false, false, false, false] rfl rfl (any_of HT_.out (by kernel_rfl)) (fun _ _ _ h => h) (Or.inl ⟨by rfl, ?_⟩) ?_ ?_
                      rotate_left
                      · intro w'
                        go_simp
                        with_reducible rfl
                      rotate_left
                      · simp only [Act.put, List.setIfInBounds_toArray, List.set_cons_zero, List.set_cons_succ, i64_w, i32_w]
                        rfl
                      refine pure_ (i := 8) (N := some 212) (v := ?_) (a' := ?_) #[true, true, true, true, true, true, true, true, true, false, false, false, false, false, false, false, false, false, false, false, false] rfl rfl (any_of HT_.out (by kernel_rfl)) (fun _ _ _ h => h) (Or.inl ⟨by rfl, ?_⟩) ?_ ?_
                      rotate_left
                      · intro w'
                        go_simp
                        with_reducible rfl
                      rotate_left
                      · simp only [Act.put, List.setIfInBounds_toArray, List.set_cons_zero, List.set_cons_succ, i64_w, i32_w]
                        rfl
                      refine pure_ (i := 10) (N := some 214) (v := ?_) (a' := ?_) #[true, true, true, true, true, true, true, true, true, false, true, false, false, false, false, false, false, false, false, false, false] rfl rfl (any_of HT_.out (by kernel_rfl)) (fun _ _ _ h => h) (Or.inl ⟨by rfl, ?_⟩) ?_ ?_
                      rotate_left
                      · intro w'
                        go_simp
                        with_reducible rfl
                      rotate_left
                      · simp only [Act.put, List.setIfInBounds_toArray, List.set_cons_zero, List.set_cons_succ, i64_w, i32_w]
                        rfl
                      refine pure_ (i := 13) (N := some 217) (v := ?_) (a' := ?_) #[true, true, true, true, true, true, true, true, true, false, true, false, false, true, false, false, false, false, false, false, false] rfl rfl (any_of HT_.out (by kernel_rfl)) (fun _ _ _ h => h) (Or.inl ⟨by rfl, ?_⟩) ?_ ?_
                      rotate_left
                      · intro w'
                        go_simp
                        with_reducible rfl
                      rotate_left
                      · simp only [Act.put, List.setIfInBounds_toArray, List.set_cons_zero, List.set_cons_succ, i64_w, i32_w]
                        rfl
                      refine take_ (i := 9) (N := some 213) (v := ?_) (a' := ?_) #[true, true, true, true, true, true, true, true, true, true, true, false, false, true, false, false, false, false, false, false, false] rfl rfl (take_ofW HT_.out HW_.out (by kernel_rfl)) (fun _ _ _ h => h) (Or.inl ⟨by rfl, ?_⟩) hHeld ?_ ?_
                      rotate_left
                      · rintro w' ⟨s0, s1, s2, s3, s4, s5, s6, s7, s8⟩
                        go_simp
                        with_reducible rfl
                      rotate_left
                      · simp only [Act.put, List.setIfInBounds_toArray, List.set_cons_zero, List.set_cons_succ, i64_w, i32_w]
                        rfl
                      refine take_ (i := 12) (N := some 216) (v := ?_) (a' := ?_) #[true, true, true, true, true, true, true, true, true, true, true, false, true, true, false, false, false, false, false, false, false] rfl rfl (take_ofW HT_.out HW_.out (by kernel_rfl)) (fun _ _ _ h => h) (Or.inl ⟨by rfl, ?_⟩) hHeld ?_ ?_
                      rotate_left
                      · rintro w' ⟨s0, s1, s2, s3, s4, s5, s6, s7, s8⟩
                        go_simp
                        with_reducible rfl
                      rotate_left
                      · simp only [Act.put, List.setIfInBounds_toArray, List.set_cons_zero, List.set_cons_succ, i64_w, i32_w]
                        rfl
                      refine one_ (i := 11) (N := some 215) #[true, true, true, true, true, true, true, true, true, true, true, true, true, true, false, false, false, false, false, false, false] rfl rfl (one_of HT_.out (by kernel_rfl)) (by decide) (fun K hK => ?_)
                      refine goes_ Try.func25 (by kernel_rfl) rfl #[.agg #[.int .i64 x320000_5, .slice Ao59 x320001_5.length co59, .slice Ao60 x320002_5.length co60], .int .i64 x1_5] (by rfl) rfl rfl (by (try simp only [List.map_toArray, List.map_cons, List.map_nil]); first | done | rfl | (simp only [List.length_drop, List.length_take]; rfl)) ?_
                      with_reducible refine (channel_Idle.calls x320000_5 _ _ x320001_5 _ _ x320002_5 x1_5 t443 _ ?side1 ?side2 ?side3 ?side4 A218.out).mono ?_
                      (case side1 => exact pC (Kd.V_reads' HO_320001.out).2.2)
                      (case side2 => exact (Kd.V_reads' HO_320001.out).2.1)
                      (case side3 => exact pC (Kd.V_reads' HO_320002.out).2.2)
                      (case side4 => exact (Kd.V_reads' HO_320002.out).2.1)
                      rintro e w240 ⟨rfl, hb⟩
                      refine ⟨_, rfl, ?_⟩
                      have n0_ := Aside0.mk (Kd.V_below (by exact pV HO_320001.out) hb)
                      have n1_ := Aside0.mk (Kd.V_below (by exact pV HO_320002.out) hb)
                      have n2_ := Aside0.mk (Kd.R_below (by exact pR HO429.out) hb)
                      have n3_ := Aside0.mk (Kd.R_below (by exact pR HO432.out) hb)
                      have n4_ := Aside0.mk (Kd.V_below (by exact pV HO437.out) hb)
                      have n5_ := Aside0.mk (Kd.R_below (by exact pR HO440.out) hb)
                      have n6_ := Aside0.mk (blk_below (g := gb319) (o := .cells #[.int .i64 x320000_5, .slice Ao59 x320001_5.length co59, .slice Ao60 x320002_5.length co60] 24 (0, 0)) (by exact pK BK319.out) hb)
                      have n7_ := Aside0.mk (blk_below (g := gb345) (o := .cells #[.int .i64 t426, .slice Ao229 t427.length co229, .slice Ao230 t430.length co230] 24 (0, 0)) (by exact pK BK345.out) hb)
                      have n8_ := Aside0.mk (blk_below (g := gb354) (o := .cells #[.int .i64 t434, .slice Ao235 t435.length co235, .slice Ao236 t438.length co236] 24 (0, 0)) (by exact pK BK354.out) hb)
                      have n9_ := Aside0.mk (below_step (by exact pB HB.out) hb)
                      clear HO_320001
                      clear HO_320002
                      clear HO429
                      clear HO432
                      clear HO437
                      clear HO440
                      clear BK319
                      clear BK345
                      clear BK354
                      clear HB
                      have HO_320001 := n0_
                      have HO_320002 := n1_
                      have HO429 := n2_
                      have HO432 := n3_
                      have HO437 := n4_
                      have HO440 := n5_
                      have BK319 := n6_
                      have BK345 := n7_
                      have BK354 := n8_
                      have HB := n9_
                      clear n0_ n1_ n2_ n3_ n4_ n5_ n6_ n7_ n8_ n9_
                      (try clear hb)
                      (try clear hb2)
                      (try clear hk)
                      (try clear hi)
                      refine hK.out _ _ ⟨(blk_cell BK345.out 0).trans rfl, (blk_cell BK345.out 1).trans rfl, (blk_cell BK345.out 2).trans rfl, (blk_cell BK354.out 0).trans rfl, (blk_cell BK354.out 1).trans rfl, (blk_cell BK354.out 2).trans rfl, (blk_cell BK319.out 0).trans rfl, (blk_cell BK319.out 1).trans rfl, (blk_cell BK319.out 2).trans rfl⟩ (fun hHeld => ?_)
                      clear hK K
                      refine norm_ (a' := ?_) ?_ ?_
                      rotate_left
                      · show Act.put _ (some 215) _ = _
                        simp only [Act.put, List.setIfInBounds_toArray, List.set_cons_zero, List.set_cons_succ, i64_w, i32_w]
                        rfl
                      refine one_ (i := 14) (N := some 218) #[true, true, true, true, true, true, true, true, true, true, true, true, true, true, true, false, false, false, false, false, false] rfl rfl (one_of HT_.out (by kernel_rfl)) (by decide) (fun K hK => ?_)
                      refine goes_ Try.func26 (by kernel_rfl) rfl #[.agg #[.int .i64 x320000_5, .slice Ao59 x320001_5.length co59, .slice Ao60 x320002_5.length co60], .int .i64 x1_5] (by rfl) rfl rfl (by (try simp only [List.map_toArray, List.map_cons, List.map_nil]); first | done | rfl | (simp only [List.length_drop, List.length_take]; rfl)) ?_
                      with_reducible refine (customsref33_Idle.calls x320000_5 _ _ x320001_5 _ _ x320002_5 x1_5 t444 _ ?side1 ?side2 ?side3 ?side4 A219.out).mono ?_
                      (case side1 => exact pC (Kd.V_reads' HO_320001.out).2.2)
                      (case side2 => exact (Kd.V_reads' HO_320001.out).2.1)
                      (case side3 => exact pC (Kd.V_reads' HO_320002.out).2.2)
                      (case side4 => exact (Kd.V_reads' HO_320002.out).2.1)
                      rintro e w241 ⟨rfl, hb⟩
                      refine ⟨_, rfl, ?_⟩
                      have n0_ := Aside0.mk (Kd.V_below (by exact pV HO_320001.out) hb)
                      have n1_ := Aside0.mk (Kd.V_below (by exact pV HO_320002.out) hb)
                      have n2_ := Aside0.mk (Kd.R_below (by exact pR HO429.out) hb)
                      have n3_ := Aside0.mk (Kd.R_below (by exact pR HO432.out) hb)
                      have n4_ := Aside0.mk (Kd.V_below (by exact pV HO437.out) hb)
                      have n5_ := Aside0.mk (Kd.R_below (by exact pR HO440.out) hb)
                      have n6_ := Aside0.mk (blk_below (g := gb319) (o := .cells #[.int .i64 x320000_5, .slice Ao59 x320001_5.length co59, .slice Ao60 x320002_5.length co60] 24 (0, 0)) (by exact pK BK319.out) hb)
                      have n7_ := Aside0.mk (blk_below (g := gb345) (o := .cells #[.int .i64 t426, .slice Ao229 t427.length co229, .slice Ao230 t430.length co230] 24 (0, 0)) (by exact pK BK345.out) hb)
                      have n8_ := Aside0.mk (blk_below (g := gb354) (o := .cells #[.int .i64 t434, .slice Ao235 t435.length co235, .slice Ao236 t438.length co236] 24 (0, 0)) (by exact pK BK354.out) hb)
                      have n9_ := Aside0.mk (below_step (by exact pB HB.out) hb)
                      clear HO_320001
                      clear HO_320002
                      clear HO429
                      clear HO432
                      clear HO437
                      clear HO440
                      clear BK319
                      clear BK345
                      clear BK354
                      clear HB
                      have HO_320001 := n0_
                      have HO_320002 := n1_
                      have HO429 := n2_
                      have HO432 := n3_
                      have HO437 := n4_
                      have HO440 := n5_
                      have BK319 := n6_
                      have BK345 := n7_
                      have BK354 := n8_
                      have HB := n9_
                      clear n0_ n1_ n2_ n3_ n4_ n5_ n6_ n7_ n8_ n9_
                      (try clear hb)
                      (try clear hb2)
                      (try clear hk)
                      (try clear hi)
                      refine hK.out _ _ ⟨(blk_cell BK345.out 0).trans rfl, (blk_cell BK345.out 1).trans rfl, (blk_cell BK345.out 2).trans rfl, (blk_cell BK354.out 0).trans rfl, (blk_cell BK354.out 1).trans rfl, (blk_cell BK354.out 2).trans rfl, (blk_cell BK319.out 0).trans rfl, (blk_cell BK319.out 1).trans rfl, (blk_cell BK319.out 2).trans rfl⟩ (fun hHeld => ?_)
                      clear hK K
                      refine norm_ (a' := ?_) ?_ ?_
                      rotate_left
                      · show Act.put _ (some 218) _ = _
                        simp only [Act.put, List.setIfInBounds_toArray, List.set_cons_zero, List.set_cons_succ, i64_w, i32_w]
                        rfl
                      refine pure_ (i := 15) (N := some 219) (v := ?_) (a' := ?_) #[true, true, true, true, true, true, true, true, true, true, true, true, true, true, true, true, false, false, false, false, false] rfl rfl (any_of HT_.out (by kernel_rfl)) (fun _ _ _ h => h) (Or.inl ⟨by rfl, ?_⟩) ?_ ?_
                      rotate_left
                      · intro w'
                        go_simp
                        with_reducible rfl
                      rotate_left
                      · simp only [Act.put, List.setIfInBounds_toArray, List.set_cons_zero, List.set_cons_succ, i64_w, i32_w]
                        rfl
                      refine pure_ (i := 16) (N := some 220) (v := ?_) (a' := ?_) #[true, true, true, true, true, true, true, true, true, true, true, true, true, true, true, true, true, false, false, false, false] rfl rfl (any_of HT_.out (by kernel_rfl)) (fun _ _ _ h => h) (Or.inl ⟨by rfl, ?_⟩) ?_ ?_
                      rotate_left
                      · intro w'
                        go_simp
                        with_reducible rfl
                      rotate_left
                      · simp only [Act.put, List.setIfInBounds_toArray, List.set_cons_zero, List.set_cons_succ, i64_w, i32_w]
                        rfl
                      refine pure_ (i := 17) (N := some 221) (v := ?_) (a' := ?_) #[true, true, true, true, true, true, true, true, true, true, true, true, true, true, true, true, true, true, false, false, false] rfl rfl (any_of HT_.out (by kernel_rfl)) (fun _ _ _ h => h) (Or.inl ⟨by rfl, ?_⟩) ?_ ?_
                      rotate_left
                      · intro w'
                        go_simp
                        with_reducible rfl
                      rotate_left
                      · simp only [Act.put, List.setIfInBounds_toArray, List.set_cons_zero, List.set_cons_succ, i64_w, i32_w]
                        rfl
                      refine one_ (i := 18) (N := some 222) #[true, true, true, true, true, true, true, true, true, true, true, true, true, true, true, true, true, true, true, false, false] rfl rfl (one_of HT_.out (by kernel_rfl)) (by decide) (fun K hK => ?_)
                      refine goes_ Try.func7 (by kernel_rfl) rfl #[] (by rfl) rfl rfl (by (try simp only [List.map_toArray, List.map_cons, List.map_nil]); first | done | rfl | (simp only [List.length_drop, List.length_take]; rfl)) ?_
                      with_reducible refine (customslaw38_awake.calls kj183  t445 _ A221.out).mono ?_
                      rintro e w242 ⟨rfl, hb⟩
                      refine ⟨_, rfl, ?_⟩
                      have n0_ := Aside0.mk (Kd.V_below (by exact pV HO_320001.out) hb)
                      have n1_ := Aside0.mk (Kd.V_below (by exact pV HO_320002.out) hb)
                      have n2_ := Aside0.mk (Kd.R_below (by exact pR HO429.out) hb)
                      have n3_ := Aside0.mk (Kd.R_below (by exact pR HO432.out) hb)
                      have n4_ := Aside0.mk (Kd.V_below (by exact pV HO437.out) hb)
                      have n5_ := Aside0.mk (Kd.R_below (by exact pR HO440.out) hb)
                      have n6_ := Aside0.mk (blk_below (g := gb319) (o := .cells #[.int .i64 x320000_5, .slice Ao59 x320001_5.length co59, .slice Ao60 x320002_5.length co60] 24 (0, 0)) (by exact pK BK319.out) hb)
                      have n7_ := Aside0.mk (blk_below (g := gb345) (o := .cells #[.int .i64 t426, .slice Ao229 t427.length co229, .slice Ao230 t430.length co230] 24 (0, 0)) (by exact pK BK345.out) hb)
                      have n8_ := Aside0.mk (blk_below (g := gb354) (o := .cells #[.int .i64 t434, .slice Ao235 t435.length co235, .slice Ao236 t438.length co236] 24 (0, 0)) (by exact pK BK354.out) hb)
                      have n9_ := Aside0.mk (below_step (by exact pB HB.out) hb)
                      clear HO_320001
                      clear HO_320002
                      clear HO429
                      clear HO432
                      clear HO437
                      clear HO440
                      clear BK319
                      clear BK345
                      clear BK354
                      clear HB
                      have HO_320001 := n0_
                      have HO_320002 := n1_
                      have HO429 := n2_
                      have HO432 := n3_
                      have HO437 := n4_
                      have HO440 := n5_
                      have BK319 := n6_
                      have BK345 := n7_
                      have BK354 := n8_
                      have HB := n9_
                      clear n0_ n1_ n2_ n3_ n4_ n5_ n6_ n7_ n8_ n9_
                      (try clear hb)
                      (try clear hb2)
                      (try clear hk)
                      (try clear hi)
                      refine hK.out _ _ ⟨(blk_cell BK345.out 0).trans rfl, (blk_cell BK345.out 1).trans rfl, (blk_cell BK345.out 2).trans rfl, (blk_cell BK354.out 0).trans rfl, (blk_cell BK354.out 1).trans rfl, (blk_cell BK354.out 2).trans rfl, (blk_cell BK319.out 0).trans rfl, (blk_cell BK319.out 1).trans rfl, (blk_cell BK319.out 2).trans rfl⟩ (fun hHeld => ?_)
                      clear hK K
                      refine norm_ (a' := ?_) ?_ ?_
                      rotate_left
                      · show Act.put _ (some 222) _ = _
                        simp only [Act.put, List.setIfInBounds_toArray, List.set_cons_zero, List.set_cons_succ, i64_w, i32_w]
                        rfl
                      refine pure_ (i := 19) (N := some 223) (v := ?_) (a' := ?_) #[true, true, true, true, true, true, true, true, true, true, true, true, true, true, true, true, true, true, true, true, false] rfl rfl (any_of HT_.out (by kernel_rfl)) (fun _ _ _ h => h) (Or.inl ⟨by rfl, ?_⟩) ?_ ?_
                      rotate_left
                      · intro w'
                        go_simp
                        with_reducible rfl
                      rotate_left
                      · simp only [Act.put, List.setIfInBounds_toArray, List.set_cons_zero, List.set_cons_succ, i64_w, i32_w]
                        rfl
                      refine pure_ (i := 20) (N := some 10) (v := ?_) (a' := ?_) #[true, true, true, true, true, true, true, true, true, true, true, true, true, true, true, true, true, true, true, true, true] rfl rfl (any_of HT_.out (by kernel_rfl)) (fun _ _ _ h => h) (Or.inl ⟨by rfl, ?_⟩) ?_ ?_
                      rotate_left
                      · intro w'
                        go_simp
                        with_reducible rfl
                      rotate_left
                      · simp only [Act.put, List.setIfInBounds_toArray, List.set_cons_zero, List.set_cons_succ, i64_w, i32_w]
                        rfl
                      refine done_ (done_of HT_.out (by kernel_rfl)) ?_
                      try go_wp2
                      go_ret
                      exact ⟨by first | rfl | (rw [HTR.out]; first | done | rfl) | (simp [errW_none, errW_some] <;> rfl) | (simp [*, errW_none, errW_some] <;> rfl), by exact pB HB.out⟩
                    · rw [if_neg c220] at H
                      have c220b0 : (t443 == t444) = false := by simpa using c220
                      (try (have c220b1 : decide (t443 = t444) = false := by simpa using c220))
                      (try (have c220b2 : (t443 == t444) = false := by simpa using c220))
                      (try (have c220b3 : ¬ (t443 = t444) := by simpa using c220))
                      clear c220
                      exact absurd (Option.some.inj H) (by simp)
                  · replace c217 := Bool.eq_false_iff.mpr c217
                    subst c217
                    have H1 : (some false) = some true := by rw [if_neg (show ¬ (false = true) by decide)] at H; exact H
                    clear H
                    have H := H1
                    clear H1
                    exact absurd (Option.some.inj H) (by simp)
                · rw [if_neg c215] at H
                  have c215b0 : (t433 == t441) = false := beq_eq_false_iff_ne.mpr c215
                  have c215b1 : (t433 != t441) = true := bne_iff_ne.mpr c215
                  exact absurd (Option.some.inj H) (by simp)


end Go.Proofs.Ytlhmgigjbeefbaa.PChannelSteps