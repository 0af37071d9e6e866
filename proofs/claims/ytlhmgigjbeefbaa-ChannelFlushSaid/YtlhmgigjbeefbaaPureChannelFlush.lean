/-
  The pure statement of the law ChannelFlush (what it says is shown in the contract, PChannelFlushx0). No condition.
-/
import Derived.Test.YtlhmgigjbeefbaaPChannelFlushx0
namespace Go.Proofs.Ytlhmgigjbeefbaa.PureChannelFlush
set_option linter.unusedVariables false
open Go.RowKit Go.Proofs.Ytlhmgigjbeefbaa.PChannelFlush
theorem pure (l0 : List Int) (hw0 : ∀ x ∈ l0, (Lit.int .i64 x).wf = true) (hl0 : l0.length * 8 ≤ 140737488351232) : customslaw38_ChannelFlush.f l0 = some true := rfl
end Go.Proofs.Ytlhmgigjbeefbaa.PureChannelFlush
