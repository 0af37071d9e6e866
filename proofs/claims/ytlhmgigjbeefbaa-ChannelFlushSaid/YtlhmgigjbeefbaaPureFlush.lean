/-
  The reference's Flush answers as the program's Flush: both deliver every message, then confirm every acknowledgement. Conditions: at most 2000 elements on the line's two lists.
-/
import Derived.Test.YtlhmgigjbeefbaaPChannelFlushRawx0
namespace Go.Proofs.Ytlhmgigjbeefbaa.PureFlush
set_option linter.unusedVariables false
open Go.RowKit Go.Proofs.Ytlhmgigjbeefbaa.PChannelSteps Go.Proofs.Ytlhmgigjbeefbaa.PChannelFlushRaw Go.Proofs.Ytlhmgigjbeefbaa.PureLine Go.Proofs.Ytlhmgigjbeefbaa.XFlush Go.Proofs.YtlhmgigjbeefbaaW.PrintWords Go.Proofs.YtlhmgigjbeefbaaW.PrintLast Go.Proofs.YtlhmgigjbeefbaaW.PrintMore

theorem cut_head (n : Int) (l : List Int) : cutP (n :: l) 0 = l := rfl
theorem rd_head (n : Int) (l : List Int) : rd (n :: l) 0 = n := rfl

theorem l1_ok (r : Int) : ∀ (bs : List Int) (k : Nat) (a : Int), bs.length < k → bs.length ≤ 10000 → customsref33_Flush.l1 k r a [] bs = some (maxP bs a, [], [], r, 0) := by
  intro bs
  induction bs with
  | nil =>
    intro k a hk hl
    obtain ⟨k, rfl⟩ : ∃ m, k = m + 1 := ⟨k - 1, by simp at hk; omega⟩
    simp only [customsref33_Flush.l1]
    rw [if_neg (by simp)]
    rfl
  | cons n bs ih =>
    intro k a hk hl
    simp only [List.length_cons] at hk hl
    obtain ⟨k, rfl⟩ : ∃ m, k = m + 1 := ⟨k - 1, by omega⟩
    simp only [customsref33_Flush.l1]
    rw [if_pos (by simp only [List.length_cons]; omega), refConfirm_ok a [] (n :: bs) 0 (by unfold Fit; simp) (by unfold Fit; simp only [List.length_cons]; omega)]
    unfold confirmP
    rw [if_pos (by simp only [List.length_cons]; omega)]
    simp only [bindS]
    rw [cut_head, rd_head]
    exact ih k _ (by omega) (by omega)

theorem l0_ok (a : Int) : ∀ (ws : List Int) (k : Nat) (r : Int) (bs : List Int), 2 * ws.length + bs.length + 2 < k → 0 ≤ r → r + ws.length ≤ 1000000 → ws.length ≤ 2000 → bs.length + ws.length ≤ 10000 →
    customsref33_Flush.l0 k r a ws bs = some (maxP (delivP ws bs r).1 a, [], [], (delivP ws bs r).2, 0) := by
  intro ws
  induction ws with
  | nil =>
    intro k r bs hk h0 h1 h2 h3
    simp only [List.length_nil] at hk h1 h2 h3
    obtain ⟨k, rfl⟩ : ∃ m, k = m + 1 := ⟨k - 1, by omega⟩
    simp only [customsref33_Flush.l0]
    rw [if_neg (by simp)]
    exact l1_ok r bs k a (by omega) (by omega)
  | cons n ws ih =>
    intro k r bs hk h0 h1 h2 h3
    simp only [List.length_cons] at hk h1 h2 h3
    obtain ⟨k, rfl⟩ : ∃ m, k = m + 1 := ⟨k - 1, by omega⟩
    simp only [customsref33_Flush.l0]
    rw [if_pos (by simp only [List.length_cons]; omega), refDeliver_ok a (n :: ws) bs 0 r (by unfold Fit; simp only [List.length_cons]; omega) (by unfold Fit; omega) k (by omega)]
    unfold deliverP
    rw [if_pos (by simp only [List.length_cons]; omega)]
    simp only [bindS]
    rw [cut_head, rd_head, wrapS (r + 1) (by omega) (by omega)]
    have har := accept_range n r
    have hd : delivP (n :: ws) bs r = delivP ws (bs ++ [acceptP n r]) (acceptP n r) := rfl
    rw [hd]
    by_cases hn : n = r + 1
    · rw [if_pos hn]
      have e : acceptP n r = n := if_pos hn
      rw [e]
      exact ih k n (bs ++ [n]) (by simp only [List.length_append, List.length_singleton]; omega) (by omega) (by omega) (by omega) (by simp only [List.length_append, List.length_singleton]; omega)
    · rw [if_neg hn]
      have e : acceptP n r = r := if_neg hn
      rw [e]
      exact ih k r (bs ++ [r]) (by simp only [List.length_append, List.length_singleton]; omega) (by omega) (by omega) (by omega) (by simp only [List.length_append, List.length_singleton]; omega)

theorem j1_err (k : Nat) (r e a : Int) (ws bs : List Int) (he : e ≠ 0) (hk : 0 < k) : customsref33_Flush.j1 k r e a ws bs = some (0, [], [], 0, e) := by
  obtain ⟨k, rfl⟩ : ∃ m, k = m + 1 := ⟨k - 1, by omega⟩
  simp only [customsref33_Flush.j1]
  rw [if_neg he]

theorem j0_err (k : Nat) (r e a : Int) (ws bs : List Int) (he : e ≠ 0) (hk : 1 < k) : customsref33_Flush.j0 k r e false a ws bs = some (0, [], [], 0, e) := by
  obtain ⟨k, rfl⟩ : ∃ m, k = m + 1 := ⟨k - 1, by omega⟩
  simp only [customsref33_Flush.j0]
  rw [if_neg (by simp)]
  exact j1_err k r e a ws bs he (by omega)

theorem j0_range (k : Nat) (r e a : Int) (ws bs : List Int) (hk : 1 < k) : customsref33_Flush.j0 k r e true a ws bs = some (0, [], [], 0, 2) := by
  obtain ⟨k, rfl⟩ : ∃ m, k = m + 1 := ⟨k - 1, by omega⟩
  simp only [customsref33_Flush.j0]
  first | rw [if_pos rfl] | rw [if_pos trivial]
  exact j1_err k r 2 a ws bs (by omega) (by omega)

/-- What Transmit leaves on the line. -/
theorem transmitP_some (a : Int) (ws bs : List Int) (s : Int) (h : (transmitP a ws bs s).2.2.2 = 0) : (transmitP a ws bs s).2.1.length ≤ 1000 ∧ (transmitP a ws bs s).2.2.1.length = bs.length := by
  unfold transmitP at h ⊢
  split
  · rename_i h1
    rw [if_pos h1] at h
    simp at h
  · rename_i h1
    rw [if_neg h1] at h
    split
    · rename_i h2
      rw [if_pos h2] at h
      simp at h
    · refine ⟨?_, rfl⟩
      simp only [List.length_append, span_length]
      omega

theorem refFlush_ok (a : Int) (ws bs : List Int) (s r : Int) (h1 : ws.length ≤ 2000) (h2 : bs.length ≤ 2000) (k : Nat) (hk : 20000 < k) :
    customsref33_Flush.f k a ws bs s r = some (flushP (transmitP a ws bs s) r) := by
  have ht := transmitP_some a ws bs s
  unfold customsref33_Flush.f
  rw [refTransmit_ok a ws bs s (by unfold Fit; omega) (by unfold Fit; omega) k (by omega)]
  simp only [bindS]
  generalize transmitP a ws bs s = t at ht ⊢
  obtain ⟨t1, t2, t3, t4⟩ := t
  simp only at ht ⊢
  unfold flushP
  simp only
  by_cases h4 : t4 = 0
  · subst h4
    obtain ⟨hw, hb⟩ := ht rfl
    rw [if_pos rfl, if_pos rfl]
    by_cases h5 : r < 0
    · rw [if_pos h5, if_pos h5]
      exact j0_range k r 0 t1 t2 t3 (by omega)
    · rw [if_neg h5, if_neg h5]
      by_cases h6 : r > 999000
      · rw [decide_eq_true h6, if_pos h6]
        exact j0_range k r 0 t1 t2 t3 (by omega)
      · rw [decide_eq_false h6, if_neg h6]
        obtain ⟨k, rfl⟩ : ∃ m, k = m + 2 := ⟨k - 2, by omega⟩
        simp only [customsref33_Flush.j0, customsref33_Flush.j1]
        rw [if_neg (by simp)]
        first | rw [if_pos rfl] | rw [if_pos trivial] | skip
        exact l0_ok t1 t2 k r t3 (by omega) (by omega) (by omega) (by omega) (by omega)
  · rw [if_neg h4, if_neg h4]
    exact j0_err k r t4 t1 t2 t3 h4 (by omega)

theorem flush_ok (a : Int) (ws bs : List Int) (s r : Int) (h1 : ws.length ≤ 2000) (h2 : bs.length ≤ 2000) : channel_Flush.f a ws bs s r = some (flushP (transmitP a ws bs s) r) := by
  unfold channel_Flush.f flushF
  rw [if_pos (by omega)]

theorem flushP_lists (t : Int × List Int × List Int × Int) (r : Int) : (flushP t r).2.1 = [] ∧ (flushP t r).2.2.1 = [] := by
  unfold flushP
  split
  · split
    · exact ⟨rfl, rfl⟩
    · split <;> exact ⟨rfl, rfl⟩
  · exact ⟨rfl, rfl⟩
end Go.Proofs.Ytlhmgigjbeefbaa.PureFlush
