/-
  The law ChannelFlush, whole: out of the printed contract of its machine side and the pure statement. No condition beyond the row's own.
-/
import Derived.Test.YtlhmgigjbeefbaaRows
import Derived.Test.YtlhmgigjbeefbaaXOpen
import Derived.Test.YtlhmgigjbeefbaaPChannelFlushx0
import Derived.Test.YtlhmgigjbeefbaaPureChannelFlush
import Derived.WalkKit
import Derived.ProofKit
import Derived.OpenShut
import Derived.ShutString
import Derived.ChangeOld
import Derived.Below
import Derived.SizedLaws
import Derived.JoinedCond
import Derived.Carry
import Derived.Lib.SmallJoins
namespace Go.Proofs.Ytlhmgigjbeefbaa.channelFlush
open Go.ChangeShapes Go.WideShapes Go.ChangeAt Go.RowKit
open Go.ChangeMaps (open_string shut_string)
open Go.Proofs.Ytlhmgigjbeefbaa.XOpen Go.Proofs.YtlhmgigjbeefbaaW.PrintWords Go.Proofs.YtlhmgigjbeefbaaW.PrintLast Go.Proofs.YtlhmgigjbeefbaaW.PrintMore
set_option linter.unusedVariables false
theorem own : ownKnob Try.prog.godebug = none := by kernel_rfl
theorem laidOut : laidOutB Try.prog = true := by kernel_rfl
set_option maxRecDepth 100000 in
theorem lifted (os : Os) (started : os.Started) (H : Type) (enc : TypeId × Value → H) :
    ReturnsInHanded {} Try.checked os 6 .any (Rows.channelFlushSpec.pre6 enc Try.prog Try.f6 Rows.channelFlushRow.domain false) (Rows.channelFlushSpec.post enc Try.prog Try.f6 false true false false) := by
  refine returnsInHanded_of_change_sized (C := Try.checked) own started (by kernel_rfl) Try.func6
    (ChangeSpec.witness6 (enc := enc) (C := Try.checked) false ⟨#[], #[.slice none 0 0], []⟩ 8 (by kernel_rfl) (by kernel_rfl) (by kernel_rfl) (by kernel_rfl)) ?_
  intro W base args ds gs before hval0 hW hcnd hsz0 _
  have hsz1 : (DataW.weightsEach Try.prog (Try.f6.params.toList ++ Rows.channelFlushSpec.plain.varTypes Try.prog) (ds ++ gs)).all (· ≤ reachBytes) = true := hsz0
  have hval : ∀ (j : Nat) t v, Try.f6.params[j]? = some t → args[j]? = some v → Value.okWide Try.prog W .any base t v := hval0
  have hW' := hW
  obtain ⟨p, q, hA0, hV, rfl, hfz, hnd⟩ := hW
  have hA : DataW.TrodAll enc Try.prog W 0 (fun _ => true) true Try.f6.params.toList args.toList ds p := hA0
  rw [Try.params6] at hA hval hsz1
  obtain ⟨v0, vs0, d0, ds0, p0, q0, hargs, rfl, rfl, h0, r0⟩ := trodAll_cons hA
  obtain ⟨rfl, rfl, rfl⟩ := trodAll_nil r0
  obtain rfl : args = #[v0] := by cases args; simp_all
  obtain ⟨rfl, rfl⟩ := trodVars_none hV
  have hsz : (DataW.weightsEach Try.prog [22] [d0]).all (· ≤ reachBytes) = true := hsz1
  clear hsz0 hsz1
  clear hA0 hval0
  have k0 := h0
  have lt0 : ∀ x ∈ p0, x.block < W.heap.size := by obtain ⟨m, hm⟩ := k0; exact DataW.trod_lt m _ _ _ hm
  obtain ⟨s0, n0, m0, rfl⟩ := okWide_slice Try.underlying22 (hval 0 22 v0 rfl rfl)
  obtain ⟨fu0, hf0⟩ := h0
  have hg0 : DataW.trod enc Try.prog W 0 (fun _ => true) true fu0 22 [.slice s0 n0 m0] = some (d0, p0) := hf0
  obtain ⟨A0, c0, l0, he0, hr0, hc0, hw0, hR0, hU0⟩ := open_nums Try.underlying22 Try.underlying3 (by kernel_rfl) hg0
  rw [he0] at k0
  have hl0 : l0.length * 8 ≤ 140737488351232 := hR0 140737488351232 (weights_arg (weights_all hsz) 0 rfl rfl)
  simp only [Value.slice.injEq] at he0
  obtain ⟨e1_, e2_, e3_⟩ := he0
  have e1_ := e1_.symm; have e3_ := e3_.symm; subst e1_; subst e2_; subst e3_
  have h := Go.Proofs.Ytlhmgigjbeefbaa.PureChannelFlush.pure l0 hw0 hl0
  refine (Go.Proofs.Ytlhmgigjbeefbaa.PChannelFlush.customslaw38_ChannelFlush.calls A0 c0 l0 W hr0 hc0 h).mono fun e W' ⟨he, bel0⟩ => ?_
  have bel : Below W.heap.size W W' := bel0
  subst he
  exact ⟨_, rfl, _, _, _, [], _, [], hW', trodAll_mk1 (shut_bool Try.underlying4 _), (trodAll_cons_mk (Below.trod laidOut (by kernel_rfl) (of_decide_eq_true (by kernel_rfl)) k0 bel lt0) trodAll_mk0), rfl, bel.frame _, fun h => by cases h⟩
theorem proved : Rows.ChannelFlushSaid :=
  OpenClaim.holds_of_wide 6 Try.f6 rfl rfl rfl rfl rfl rfl rfl ⟨rfl, rfl, rfl, rfl, rfl⟩ rfl rfl rfl rfl rfl (by kernel_rfl) Try.func6 (by kernel_rfl)
    (of_decide_eq_true (by kernel_rfl)) (by unfold Func.isWrapper; first | (rw [if_pos (by decide +kernel)]; kernel_rfl) | (rw [if_neg (by decide +kernel)]; exact ⟨rfl, rfl⟩))
    (fun os started H enc _ => lifted os started H enc)
#print axioms proved
end Go.Proofs.Ytlhmgigjbeefbaa.channelFlush
namespace Go.Proofs.Ytlhmgigjbeefbaa
/-- The row, under a short name, for the claim. -/
theorem channelFlush_holds : Rows.ChannelFlushSaid := channelFlush.proved
end Go.Proofs.Ytlhmgigjbeefbaa
