/-
  The pure statement of the law ChannelSteps: the printed functions answer true. No condition beyond the lists' lengths.
-/
import Derived.Test.YtlhmgigjbeefbaaPChannelStepsx8
import Derived.Test.YtlhmgigjbeefbaaPureLine
namespace Go.Proofs.Ytlhmgigjbeefbaa.PureChannelSteps
set_option linter.unusedVariables false
open Go.RowKit Go.Proofs.Ytlhmgigjbeefbaa.PChannelSteps Go.Proofs.Ytlhmgigjbeefbaa.PureLine Go.Proofs.YtlhmgigjbeefbaaW.PrintWords Go.Proofs.YtlhmgigjbeefbaaW.PrintLast Go.Proofs.YtlhmgigjbeefbaaW.PrintMore

theorem same_of (k : Nat) (r : Int × List Int × List Int) (n : Nat) (h1 : r.2.1.length ≤ n) (h2 : r.2.2.length ≤ n) (hn : n < k) (hb : n < 9223372036854775807) : customsref33_SameLine.f k r.1 r.2.1 r.2.2 r.1 r.2.1 r.2.2 = some true :=
  sameLine_ok k r.1 r.2.1 r.2.2 (by omega) (by omega) (by omega) (by omega)

theorem j8_ok (a : Int) (ws bs : List Int) (h1 : Fit ws) (h2 : Fit bs) (x1 x2 : Int) (k : Nat) (hk : ws.length + bs.length + 2000 < k) : customslaw38_ChannelSteps.j8 k x1 x2 false a ws bs = some true := by
  unfold Fit at h1 h2
  obtain ⟨k, rfl⟩ : ∃ m, k = m + 1 := ⟨k - 1, by omega⟩
  simp only [customslaw38_ChannelSteps.j8]
  rw [if_neg (by simp), forget_ok a ws bs x2 h1 h2, refForget_ok a ws bs x2 h1 h2]
  simp only [bindS]
  have hl : (forgetP a ws bs x2).2.1.length ≤ ws.length ∧ (forgetP a ws bs x2).2.2.1.length ≤ bs.length := by
    unfold forgetP
    split
    · rename_i h
      exact ⟨Nat.le_refl _, by rw [cutP_length _ _ h.1 h.2]; omega⟩
    · simp
  rw [if_pos trivial, sameLine_ok k _ _ _ (by omega) (by omega) (by omega) (by omega)]
  obtain ⟨b, hb⟩ := idle_some a ws bs x1
  simp only [bindS]
  rw [if_pos trivial, idle_same, hb]
  simp only [bindS]
  rw [if_pos (by simp), awake_ok k (by omega)]
  rfl

theorem j7_ok (a : Int) (ws bs : List Int) (h1 : Fit ws) (h2 : Fit bs) (x1 x2 : Int) (k : Nat) (hk : ws.length + bs.length + 2001 < k) : customslaw38_ChannelSteps.j7 k x1 x2 false a ws bs = some true := by
  have g8 := j8_ok a ws bs h1 h2 x1 x2
  unfold Fit at h1 h2
  obtain ⟨k, rfl⟩ : ∃ m, k = m + 1 := ⟨k - 1, by omega⟩
  simp only [customslaw38_ChannelSteps.j7]
  rw [if_neg (by simp), confirm_ok a ws bs x2 h1 h2, refConfirm_ok a ws bs x2 h1 h2]
  simp only [bindS]
  have hl : (confirmP a ws bs x2).2.1.length ≤ ws.length ∧ (confirmP a ws bs x2).2.2.1.length ≤ bs.length := by
    unfold confirmP
    split
    · rename_i h
      exact ⟨Nat.le_refl _, by rw [cutP_length _ _ h.1 h.2]; omega⟩
    · simp
  rw [if_pos trivial, sameLine_ok k _ _ _ (by omega) (by omega) (by omega) (by omega)]
  exact g8 k (by omega)

theorem j6_ok (a : Int) (ws bs : List Int) (h1 : Fit ws) (h2 : Fit bs) (x1 x2 : Int) (k : Nat) (hk : ws.length + bs.length + 2002 < k) : customslaw38_ChannelSteps.j6 k x1 x2 false a ws bs = some true := by
  have g8 := j7_ok a ws bs h1 h2 x1 x2
  unfold Fit at h1 h2
  obtain ⟨k, rfl⟩ : ∃ m, k = m + 1 := ⟨k - 1, by omega⟩
  simp only [customslaw38_ChannelSteps.j6]
  rw [if_neg (by simp), repeat_ok a ws bs x2 h1 h2, refRepeat_ok a ws bs x2 h1 h2 k (by omega)]
  simp only [bindS]
  have hl : (repeatP a ws bs x2).2.1.length ≤ ws.length + 1 ∧ (repeatP a ws bs x2).2.2.1.length ≤ bs.length := by
    unfold repeatP
    split
    · split
      · simp
      · simp
    · simp
  rw [if_pos trivial, sameLine_ok k _ _ _ (by omega) (by omega) (by omega) (by omega)]
  exact g8 k (by omega)

theorem j5_ok (a : Int) (ws bs : List Int) (h1 : Fit ws) (h2 : Fit bs) (x1 x2 : Int) (k : Nat) (hk : ws.length + bs.length + 2003 < k) : customslaw38_ChannelSteps.j5 k x1 x2 false a ws bs = some true := by
  have g8 := j6_ok a ws bs h1 h2 x1 x2
  unfold Fit at h1 h2
  obtain ⟨k, rfl⟩ : ∃ m, k = m + 1 := ⟨k - 1, by omega⟩
  simp only [customslaw38_ChannelSteps.j5]
  rw [if_neg (by simp), lose_ok a ws bs x2 h1 h2, refLose_ok a ws bs x2 h1 h2]
  simp only [bindS]
  have hl : (loseP a ws bs x2).2.1.length ≤ ws.length ∧ (loseP a ws bs x2).2.2.1.length ≤ bs.length := by
    unfold loseP
    split
    · rename_i h
      exact ⟨by rw [cutP_length _ _ h.1 h.2]; omega, Nat.le_refl _⟩
    · simp
  rw [if_pos trivial, sameLine_ok k _ _ _ (by omega) (by omega) (by omega) (by omega)]
  exact g8 k (by omega)

theorem j4_ok (a : Int) (ws bs : List Int) (h1 : Fit ws) (h2 : Fit bs) (x1 x2 x3 : Int) (k : Nat) (hk : ws.length + bs.length + 2004 < k) : customslaw38_ChannelSteps.j4 k x1 x2 x3 false a ws bs = some true := by
  have g8 := j5_ok a ws bs h1 h2 x1 x2
  unfold Fit at h1 h2
  obtain ⟨k, rfl⟩ : ∃ m, k = m + 1 := ⟨k - 1, by omega⟩
  simp only [customslaw38_ChannelSteps.j4]
  rw [if_neg (by simp), deliver_ok a ws bs x2 x3 h1 h2 k (by omega), refDeliver_ok a ws bs x2 x3 h1 h2 k (by omega)]
  simp only [bindS]
  have hl : (deliverP a ws bs x2 x3).2.1.length ≤ ws.length ∧ (deliverP a ws bs x2 x3).2.2.1.length ≤ bs.length + 1 := by
    unfold deliverP
    split
    · rename_i h
      exact ⟨by rw [cutP_length _ _ h.1 h.2.1]; omega, by simp⟩
    · simp
  rw [if_pos trivial, if_pos trivial, sameLine_ok k _ _ _ (by omega) (by omega) (by omega) (by omega)]
  exact g8 k (by omega)

theorem j3_ok (a : Int) (ws bs : List Int) (h1 : Fit ws) (h2 : Fit bs) (x1 x2 x3 : Int) (k : Nat) (hk : ws.length + bs.length + 2005 < k) : customslaw38_ChannelSteps.j3 k x1 x2 x3 a ws bs = some true := by
  have g8 := j4_ok a ws bs h1 h2 x1 x2 x3
  have hl := transmitP_len a ws bs x1
  unfold Fit at h1 h2
  obtain ⟨k, rfl⟩ : ∃ m, k = m + 1 := ⟨k - 1, by omega⟩
  simp only [customslaw38_ChannelSteps.j3]
  rw [transmit_ok a ws bs x1 h1 h2 k (by omega), refTransmit_ok a ws bs x1 h1 h2 k (by omega)]
  simp only [bindS]
  rw [if_pos trivial, sameLine_ok k _ _ _ (by omega) (by omega) (by omega) (by omega)]
  exact g8 k (by omega)

theorem end_ok (a : Int) (ws bs : List Int) (h1 : Fit ws) (h2 : Fit bs) (x1 x2 x3 : Int) (k : Nat) (hk : ws.length + bs.length + 2005 < k) :
    ((customsmade_Within.f x1 12).bind fun t331 => ((customsmade_Within.f x2 11).bind fun t332 => ((customsmade_Within.f x3 9).bind fun t333 => (customslaw38_ChannelSteps.j3 k t331 t332 t333 a ws bs)))) = some true := by
  rw [(within_ok x1 12 (by omega) (by omega)).1, (within_ok x2 11 (by omega) (by omega)).1, (within_ok x3 9 (by omega) (by omega)).1]
  simp only [bindS]
  exact j3_ok a ws bs h1 h2 _ _ _ k hk

theorem l1_ok (x1 x2 x3 a0 : Int) (os ob : List Int) (a : Int) (ws : List Int) (hw : ws.length ≤ 10) : ∀ (d k : Nat) (i : Int) (bs : List Int), 0 ≤ i → i + d = 10 → (bs.length : Int) ≤ i → 3000 + d < k →
    customslaw38_ChannelSteps.l1 k x1 x2 x3 i a0 os ob a ws bs = some true := by
  intro d
  induction d with
  | zero =>
    intro k i bs h0 h1 h2 hk
    obtain ⟨k, rfl⟩ : ∃ m, k = m + 1 := ⟨k - 1, by omega⟩
    simp only [customslaw38_ChannelSteps.l1]
    have e := end_ok a ws bs (by unfold Fit; omega) (by unfold Fit; omega) x1 x2 x3 k (by omega)
    split
    · rw [if_neg (by omega)]
      exact e
    · exact e
  | succ d ih =>
    intro k i bs h0 h1 h2 hk
    obtain ⟨k, rfl⟩ : ∃ m, k = m + 1 := ⟨k - 1, by omega⟩
    simp only [customslaw38_ChannelSteps.l1]
    split
    · rw [if_pos (by omega), (within_ok _ 9 (by omega) (by omega)).1]
      simp only [bindS]
      rw [if_pos (by omega), wrapS _ (by omega) (by omega)]
      exact ih k (i + 1) _ (by omega) (by omega) (by simp only [List.length_append, List.length_singleton]; omega) (by omega)
    · exact end_ok a ws bs (by unfold Fit; omega) (by unfold Fit; omega) x1 x2 x3 k (by omega)

theorem j1_ok (x1 x2 x3 a0 : Int) (os ob : List Int) (a : Int) (ws : List Int) (hw : ws.length ≤ 10) (k : Nat) (hk : 3020 < k) : customslaw38_ChannelSteps.j1 k x1 x2 x3 a0 os ob a ws = some true := by
  obtain ⟨k, rfl⟩ : ∃ m, k = m + 1 := ⟨k - 1, by omega⟩
  simp only [customslaw38_ChannelSteps.j1]
  exact l1_ok x1 x2 x3 a0 os ob a ws hw 10 k 0 [] (by omega) (by omega) (by simp) (by omega)

theorem l0_ok (x1 x2 x3 a0 : Int) (os ob : List Int) (a : Int) : ∀ (d k : Nat) (i : Int) (ws : List Int), 0 ≤ i → i + d = 10 → (ws.length : Int) ≤ i → 3030 + d < k →
    customslaw38_ChannelSteps.l0 k x1 x2 x3 i a0 os ob a ws = some true := by
  intro d
  induction d with
  | zero =>
    intro k i ws h0 h1 h2 hk
    obtain ⟨k, rfl⟩ : ∃ m, k = m + 1 := ⟨k - 1, by omega⟩
    simp only [customslaw38_ChannelSteps.l0]
    have e := j1_ok x1 x2 x3 a0 os ob a ws (by omega) k (by omega)
    split
    · rw [if_neg (by omega)]
      exact e
    · exact e
  | succ d ih =>
    intro k i ws h0 h1 h2 hk
    obtain ⟨k, rfl⟩ : ∃ m, k = m + 1 := ⟨k - 1, by omega⟩
    simp only [customslaw38_ChannelSteps.l0]
    split
    · rw [if_pos (by omega), (within_ok _ 9 (by omega) (by omega)).1]
      simp only [bindS]
      rw [if_pos (by omega), wrapS (i + 1) (by omega) (by omega)]
      exact ih k (i + 1) _ (by omega) (by omega) (by simp only [List.length_append, List.length_singleton]; omega) (by omega)
    · exact j1_ok x1 x2 x3 a0 os ob a ws (by omega) k (by omega)

theorem pure (a0_0 : Int) (w0_0 : (Lit.int .i64 a0_0).wf = true) (l0_1 : List Int) (hw0_1 : ∀ x ∈ l0_1, (Lit.int .i64 x).wf = true) (hl0_1 : l0_1.length * 8 ≤ 140737488351232) (l0_2 : List Int) (hw0_2 : ∀ x ∈ l0_2, (Lit.int .i64 x).wf = true) (hl0_2 : l0_2.length * 8 ≤ 140737488351232) (a1 : Int) (w1 : (Lit.int .i64 a1).wf = true) (a2 : Int) (w2 : (Lit.int .i64 a2).wf = true) (a3 : Int) (w3 : (Lit.int .i64 a3).wf = true) (a4 : Bool) :
    ∃ k, customslaw38_ChannelSteps.f k a0_0 l0_1 l0_2 a1 a2 a3 a4 = some true := by
  refine ⟨l0_1.length + l0_2.length + 4000, ?_⟩
  unfold customslaw38_ChannelSteps.f
  cases a4 with
  | true =>
    rw [if_pos rfl]
    exact j3_ok a0_0 l0_1 l0_2 (by unfold Fit; omega) (by unfold Fit; omega) a1 a2 a3 _ (by omega)
  | false =>
    rw [if_neg (by simp), (within_ok _ 5 (by omega) (by omega)).1]
    simp only [bindS]
    exact l0_ok a1 a2 a3 a0_0 l0_1 l0_2 _ 10 _ 0 [] (by omega) (by omega) (by simp) (by omega)
end Go.Proofs.Ytlhmgigjbeefbaa.PureChannelSteps
