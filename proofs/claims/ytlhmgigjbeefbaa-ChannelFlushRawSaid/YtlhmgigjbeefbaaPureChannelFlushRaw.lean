/-
  The pure statement of the law ChannelFlushRaw: the printed functions answer true. No condition beyond the lists' lengths.
-/
import Derived.Test.YtlhmgigjbeefbaaPureFlush
namespace Go.Proofs.Ytlhmgigjbeefbaa.PureChannelFlushRaw
set_option linter.unusedVariables false
open Go.RowKit Go.Proofs.Ytlhmgigjbeefbaa.PChannelSteps Go.Proofs.Ytlhmgigjbeefbaa.PChannelFlushRaw Go.Proofs.Ytlhmgigjbeefbaa.PureLine Go.Proofs.Ytlhmgigjbeefbaa.PureFlush Go.Proofs.Ytlhmgigjbeefbaa.XFlush Go.Proofs.YtlhmgigjbeefbaaW.PrintWords Go.Proofs.YtlhmgigjbeefbaaW.PrintLast Go.Proofs.YtlhmgigjbeefbaaW.PrintMore

theorem j0_awake (k : Nat) (hk : 70 < k) (s r a : Int) (ws bs : List Int) : customslaw38_ChannelFlushRaw.j0 k s r true a ws bs = some true := by
  obtain ⟨k, rfl⟩ : ∃ m, k = m + 1 := ⟨k - 1, by omega⟩
  simp only [customslaw38_ChannelFlushRaw.j0]
  first | rw [if_pos rfl] | rw [if_pos trivial] | skip
  rw [awake_ok k (by omega)]
  rfl

theorem j0_ok (k : Nat) (hk : 30000 < k) (s r a : Int) (ws bs : List Int) (h1 : ws.length ≤ 2000) (h2 : bs.length ≤ 2000) (b : Bool) : customslaw38_ChannelFlushRaw.j0 k s r b a ws bs = some true := by
  cases b with
  | true => exact j0_awake k (by omega) s r a ws bs
  | false =>
    obtain ⟨k, rfl⟩ : ∃ m, k = m + 1 := ⟨k - 1, by omega⟩
    simp only [customslaw38_ChannelFlushRaw.j0]
    rw [if_neg (by simp), flush_ok a ws bs s r h1 h2, refFlush_ok a ws bs s r h1 h2 k (by omega)]
    obtain ⟨e1, e2⟩ := flushP_lists (transmitP a ws bs s) r
    simp only [bindS]
    rw [if_pos trivial, if_pos trivial, e1, e2, sameLine_ok k _ [] [] (by simp) (by simp) (by simp; omega) (by simp; omega)]
    simp only [bindS]
    first | rw [if_pos rfl] | rw [if_pos trivial] | skip
    rw [awake_ok k (by omega)]
    rfl

theorem pure (a0_0 : Int) (w0_0 : (Lit.int .i64 a0_0).wf = true) (l0_1 : List Int) (hw0_1 : ∀ x ∈ l0_1, (Lit.int .i64 x).wf = true) (hl0_1 : l0_1.length * 8 ≤ 140737488351232) (l0_2 : List Int) (hw0_2 : ∀ x ∈ l0_2, (Lit.int .i64 x).wf = true) (hl0_2 : l0_2.length * 8 ≤ 140737488351232) (a1 : Int) (w1 : (Lit.int .i64 a1).wf = true) (a2 : Int) (w2 : (Lit.int .i64 a2).wf = true) :
    ∃ k, customslaw38_ChannelFlushRaw.f k a0_0 l0_1 l0_2 a1 a2 = some true := by
  refine ⟨40000, ?_⟩
  unfold customslaw38_ChannelFlushRaw.f
  by_cases h1 : (l0_1.length : Int) > 100
  · rw [if_pos h1]
    exact j0_awake _ (by omega) a1 a2 a0_0 l0_1 l0_2
  · rw [if_neg h1]
    by_cases h2 : (l0_2.length : Int) > 100
    · rw [if_pos h2]
      exact j0_awake _ (by omega) a1 a2 a0_0 l0_1 l0_2
    · rw [if_neg h2]
      split
      · exact j0_ok _ (by omega) a1 a2 a0_0 l0_1 l0_2 (by omega) (by omega) _
      · exact j0_ok _ (by omega) a1 a2 a0_0 l0_1 l0_2 (by omega) (by omega) _
end Go.Proofs.Ytlhmgigjbeefbaa.PureChannelFlushRaw
