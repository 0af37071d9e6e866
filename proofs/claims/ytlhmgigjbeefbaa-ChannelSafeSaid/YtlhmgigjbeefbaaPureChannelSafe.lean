/-
  The pure statement of the law ChannelSafe: play ends well for every list. No condition.
-/
import Derived.Test.YtlhmgigjbeefbaaPureSafe
import Derived.Test.YtlhmgigjbeefbaaPChannelSafex0
namespace Go.Proofs.Ytlhmgigjbeefbaa.PureChannelSafe
set_option linter.unusedVariables false
open Go.RowKit Go.Proofs.Ytlhmgigjbeefbaa.PChannelSafe Go.Proofs.Ytlhmgigjbeefbaa.PureSafe Go.Proofs.Ytlhmgigjbeefbaa.XPlay Go.Proofs.Ytlhmgigjbeefbaa.XPlayWalk
theorem pure (l0 : List Int) (hw0 : ∀ x ∈ l0, (Lit.int .i64 x).wf = true) (hl0 : l0.length * 8 ≤ 140737488351232) : customslaw38_ChannelSafe.f l0 = some true := by
  unfold customslaw38_ChannelSafe.f
  rw [(run_good (l0.take 120) 121 q0 (start_inv _) start_good (by rw [List.length_take]; omega)).1]
end Go.Proofs.Ytlhmgigjbeefbaa.PureChannelSafe
