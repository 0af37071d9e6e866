/-
  The law ChannelFlushRaw, whole: out of the printed contract of its machine side and the pure statement. No condition beyond the row's own.
-/
import Derived.Test.YtlhmgigjbeefbaaRows
import Derived.Test.YtlhmgigjbeefbaaXOpen
import Derived.Test.YtlhmgigjbeefbaaPChannelFlushRawx0
import Derived.Test.YtlhmgigjbeefbaaPureChannelFlushRaw
import Derived.WalkKit
import Derived.ProofKit
import Derived.OpenShut
import Derived.ShutString
import Derived.ChangeOld
import Derived.Below
import Derived.SizedLaws
import Derived.JoinedCond
import Derived.Carry
import Derived.Lib.SmallJoins
namespace Go.Proofs.Ytlhmgigjbeefbaa.channelFlushRaw
open Go.ChangeShapes Go.WideShapes Go.ChangeAt Go.RowKit
open Go.ChangeMaps (open_string shut_string)
open Go.Proofs.Ytlhmgigjbeefbaa.XOpen Go.Proofs.YtlhmgigjbeefbaaW.PrintWords Go.Proofs.YtlhmgigjbeefbaaW.PrintLast Go.Proofs.YtlhmgigjbeefbaaW.PrintMore
set_option linter.unusedVariables false
theorem own : ownKnob Try.prog.godebug = none := by kernel_rfl
theorem laidOut : laidOutB Try.prog = true := by kernel_rfl
set_option maxRecDepth 100000 in
theorem lifted (os : Os) (started : os.Started) (H : Type) (enc : TypeId × Value → H) :
    ReturnsInHanded {} Try.checked os 3 .any (Rows.channelFlushRawSpec.pre6 enc Try.prog Try.f3 Rows.channelFlushRawRow.domain false) (Rows.channelFlushRawSpec.post enc Try.prog Try.f3 false true false false) := by
  refine returnsInHanded_of_change_sized (C := Try.checked) own started (by kernel_rfl) Try.func3
    (ChangeSpec.witness6 (enc := enc) (C := Try.checked) false ⟨#[], #[.agg #[.int .i64 0, .slice none 0 0, .slice none 0 0], .int .i64 0, .int .i64 0], []⟩ 8 (by kernel_rfl) (by kernel_rfl) (by kernel_rfl) (by kernel_rfl)) ?_
  intro W base args ds gs before hval0 hW hcnd hsz0 _
  have hsz1 : (DataW.weightsEach Try.prog (Try.f3.params.toList ++ Rows.channelFlushRawSpec.plain.varTypes Try.prog) (ds ++ gs)).all (· ≤ reachBytes) = true := hsz0
  have hval : ∀ (j : Nat) t v, Try.f3.params[j]? = some t → args[j]? = some v → Value.okWide Try.prog W .any base t v := hval0
  have hW' := hW
  obtain ⟨p, q, hA0, hV, rfl, hfz, hnd⟩ := hW
  have hA : DataW.TrodAll enc Try.prog W 0 (fun _ => true) true Try.f3.params.toList args.toList ds p := hA0
  rw [Try.params3] at hA hval hsz1
  obtain ⟨v0, vs0, d0, ds0, p0, q0, hargs, rfl, rfl, h0, r0⟩ := trodAll_cons hA
  obtain ⟨v1, vs1, d1, ds1, p1, q1, rfl, rfl, rfl, h1, r1⟩ := trodAll_cons r0
  obtain ⟨v2, vs2, d2, ds2, p2, q2, rfl, rfl, rfl, h2, r2⟩ := trodAll_cons r1
  obtain ⟨rfl, rfl, rfl⟩ := trodAll_nil r2
  obtain rfl : args = #[v0, v1, v2] := by cases args; simp_all
  obtain ⟨rfl, rfl⟩ := trodVars_none hV
  have hsz : (DataW.weightsEach Try.prog [24, 3, 3] [d0, d1, d2]).all (· ≤ reachBytes) = true := hsz1
  clear hsz0 hsz1
  clear hA0 hval0
  have k0 := h0
  have lt0 : ∀ x ∈ p0, x.block < W.heap.size := by obtain ⟨m, hm⟩ := k0; exact DataW.trod_lt m _ _ _ hm
  obtain ⟨v0_0, v0_1, v0_2, y0_0, y0_1, y0_2, fu0, rfl, hd0, _, g0_0, g0_1, g0_2⟩ := Go.Joins.open_agg3 Try.underlying24 (by kernel_rfl) (by kernel_rfl) (hval 0 24 v0 rfl rfl) h0
  obtain ⟨a0_0, ea0_0, _, w0_0⟩ := DataW.trod_int Try.underlying3 g0_0
  simp only [List.cons.injEq, and_true] at ea0_0
  subst ea0_0
  obtain ⟨A0_1, c0_1, l0_1, rfl, hr0_1, hc0_1, hw0_1, hR0_1, hU0_1⟩ := open_nums Try.underlying22 Try.underlying3 (by kernel_rfl) g0_1
  have hl0_1 : l0_1.length * 8 ≤ 140737488351232 := hR0_1 140737488351232 (weights_field Try.underlying24 (hd0 ▸ (weights_arg (weights_all hsz) 0 rfl rfl)) 1 rfl rfl)
  obtain ⟨A0_2, c0_2, l0_2, rfl, hr0_2, hc0_2, hw0_2, hR0_2, hU0_2⟩ := open_nums Try.underlying22 Try.underlying3 (by kernel_rfl) g0_2
  have hl0_2 : l0_2.length * 8 ≤ 140737488351232 := hR0_2 140737488351232 (weights_field Try.underlying24 (hd0 ▸ (weights_arg (weights_all hsz) 0 rfl rfl)) 2 rfl rfl)
  obtain ⟨a1, rfl, rfl, rfl, w1⟩ := open_int Try.underlying3 (hval 1 3 v1 rfl rfl) h1
  obtain ⟨a2, rfl, rfl, rfl, w2⟩ := open_int Try.underlying3 (hval 2 3 v2 rfl rfl) h2
  obtain ⟨k, h⟩ := Go.Proofs.Ytlhmgigjbeefbaa.PureChannelFlushRaw.pure a0_0 w0_0 l0_1 hw0_1 hl0_1 l0_2 hw0_2 hl0_2 a1 w1 a2 w2
  refine (Go.Proofs.Ytlhmgigjbeefbaa.PChannelFlushRaw.customslaw38_ChannelFlushRaw.calls k a0_0 A0_1 c0_1 l0_1 A0_2 c0_2 l0_2 a1 a2 W hr0_1 hc0_1 hr0_2 hc0_2 h).mono fun e W' ⟨he, bel0⟩ => ?_
  have bel : Below W.heap.size W W' := bel0
  subst he
  exact ⟨_, rfl, _, _, _, [], _, [], hW', trodAll_mk1 (shut_bool Try.underlying4 _), (trodAll_cons_mk (Below.trod laidOut (by kernel_rfl) (of_decide_eq_true (by kernel_rfl)) k0 bel lt0) (trodAll_cons_mk (shut_int Try.underlying3 w1) (trodAll_cons_mk (shut_int Try.underlying3 w2) trodAll_mk0))), rfl, bel.frame _, fun h => by cases h⟩
theorem proved : Rows.ChannelFlushRawSaid :=
  OpenClaim.holds_of_wide 3 Try.f3 rfl rfl rfl rfl rfl rfl rfl ⟨rfl, rfl, rfl, rfl, rfl⟩ rfl rfl rfl rfl rfl (by kernel_rfl) Try.func3 (by kernel_rfl)
    (of_decide_eq_true (by kernel_rfl)) (by unfold Func.isWrapper; first | (rw [if_pos (by decide +kernel)]; kernel_rfl) | (rw [if_neg (by decide +kernel)]; exact ⟨rfl, rfl⟩))
    (fun os started H enc _ => lifted os started H enc)
#print axioms proved
end Go.Proofs.Ytlhmgigjbeefbaa.channelFlushRaw
namespace Go.Proofs.Ytlhmgigjbeefbaa
/-- The row, under a short name, for the claim. -/
theorem channelFlushRaw_holds : Rows.ChannelFlushRawSaid := channelFlushRaw.proved
end Go.Proofs.Ytlhmgigjbeefbaa
