/-
  The law DiskFlip, whole: out of the printed contract of its machine side and the pure statement. No condition beyond the row's own.
-/
import Derived.Test.YthnlepmfjhhgfaaRows
import Derived.Test.YthnlepmfjhhgfaaXOpen
import Derived.Test.YthnlepmfjhhgfaaPDiskFlipx3
import Derived.Test.YthnlepmfjhhgfaaPureDiskFlip
import Derived.WalkKit
import Derived.ProofKit
import Derived.OpenShut
import Derived.ShutString
import Derived.ChangeOld
import Derived.Below
import Derived.SizedLaws
import Derived.JoinedCond
import Derived.Carry
import Derived.Lib.SmallJoins
namespace Go.Proofs.Ythnlepmfjhhgfaa.diskFlip
open Go.ChangeShapes Go.WideShapes Go.ChangeAt Go.RowKit
open Go.ChangeMaps (open_string shut_string)
open Go.Proofs.Ythnlepmfjhhgfaa.XOpen Go.Proofs.YthnlepmfjhhgfaaW.PrintWords Go.Proofs.YthnlepmfjhhgfaaW.PrintLast Go.Proofs.YthnlepmfjhhgfaaW.PrintMore
set_option linter.unusedVariables false
theorem own : ownKnob Try.prog.godebug = none := by kernel_rfl
theorem laidOut : laidOutB Try.prog = true := by kernel_rfl
set_option maxRecDepth 100000 in
theorem lifted (os : Os) (started : os.Started) (H : Type) (enc : TypeId × Value → H) :
    ReturnsInHanded {} Try.checked os 5 .any (Rows.diskFlipSpec.pre6 enc Try.prog Try.f5 Rows.diskFlipRow.domain false) (Rows.diskFlipSpec.post enc Try.prog Try.f5 false true false false) := by
  refine returnsInHanded_of_change_sized (C := Try.checked) own started (by kernel_rfl) Try.func5
    (ChangeSpec.witness6 (enc := enc) (C := Try.checked) false ⟨#[], #[.agg #[.slice none 0 0, .slice none 0 0], .int .i64 0], []⟩ 8 (by kernel_rfl) (by kernel_rfl) (by kernel_rfl) (by kernel_rfl)) ?_
  intro W base args ds gs before hval0 hW hcnd hsz0 _
  have hsz1 : (DataW.weightsEach Try.prog (Try.f5.params.toList ++ Rows.diskFlipSpec.plain.varTypes Try.prog) (ds ++ gs)).all (· ≤ reachBytes) = true := hsz0
  have hval : ∀ (j : Nat) t v, Try.f5.params[j]? = some t → args[j]? = some v → Value.okWide Try.prog W .any base t v := hval0
  have hW' := hW
  obtain ⟨p, q, hA0, hV, rfl, hfz, hnd⟩ := hW
  have hA : DataW.TrodAll enc Try.prog W 0 (fun _ => true) true Try.f5.params.toList args.toList ds p := hA0
  rw [Try.params5] at hA hval hsz1
  obtain ⟨v0, vs0, d0, ds0, p0, q0, hargs, rfl, rfl, h0, r0⟩ := trodAll_cons hA
  obtain ⟨v1, vs1, d1, ds1, p1, q1, rfl, rfl, rfl, h1, r1⟩ := trodAll_cons r0
  obtain ⟨rfl, rfl, rfl⟩ := trodAll_nil r1
  obtain rfl : args = #[v0, v1] := by cases args; simp_all
  obtain ⟨rfl, rfl⟩ := trodVars_none hV
  have hsz : (DataW.weightsEach Try.prog [24, 3] [d0, d1]).all (· ≤ reachBytes) = true := hsz1
  clear hsz0 hsz1
  clear hA0 hval0
  have k0 := h0
  have lt0 : ∀ x ∈ p0, x.block < W.heap.size := by obtain ⟨m, hm⟩ := k0; exact DataW.trod_lt m _ _ _ hm
  obtain ⟨v0_0, v0_1, y0_0, y0_1, fu0, rfl, hd0, _, g0_0, g0_1⟩ := Go.Joins.open_agg2 Try.underlying24 (by kernel_rfl) (by kernel_rfl) (hval 0 24 v0 rfl rfl) h0
  obtain ⟨A0_0, c0_0, l0_0, rfl, hr0_0, hc0_0, hw0_0, hR0_0, hU0_0⟩ := open_nums Try.underlying22 Try.underlying5 (by kernel_rfl) g0_0
  have hl0_0 : l0_0.length * 1 ≤ 140737488351232 := hR0_0 140737488351232 (weights_field Try.underlying24 (hd0 ▸ (weights_arg (weights_all hsz) 0 rfl rfl)) 0 rfl rfl)
  obtain ⟨A0_1, c0_1, l0_1, rfl, hr0_1, hc0_1, hw0_1, hR0_1, hU0_1⟩ := open_nums Try.underlying22 Try.underlying5 (by kernel_rfl) g0_1
  have hl0_1 : l0_1.length * 1 ≤ 140737488351232 := hR0_1 140737488351232 (weights_field Try.underlying24 (hd0 ▸ (weights_arg (weights_all hsz) 0 rfl rfl)) 1 rfl rfl)
  obtain ⟨a1, rfl, rfl, rfl, w1⟩ := open_int Try.underlying3 (hval 1 3 v1 rfl rfl) h1
  obtain ⟨k, h⟩ := Go.Proofs.Ythnlepmfjhhgfaa.PureDiskFlip.pure l0_0 hw0_0 hl0_0 l0_1 hw0_1 hl0_1 a1 w1
  refine (Go.Proofs.Ythnlepmfjhhgfaa.PDiskFlip.customslaw33_DiskFlip.calls k A0_0 c0_0 l0_0 A0_1 c0_1 l0_1 a1 W hr0_0 hc0_0 hr0_1 hc0_1 h).mono fun e W' ⟨he, bel0⟩ => ?_
  have bel : Below W.heap.size W W' := bel0
  subst he
  exact ⟨_, rfl, _, _, _, [], _, [], hW', trodAll_mk1 (shut_bool Try.underlying4 _), (trodAll_cons_mk (Below.trod laidOut (by kernel_rfl) (of_decide_eq_true (by kernel_rfl)) k0 bel lt0) (trodAll_cons_mk (shut_int Try.underlying3 w1) trodAll_mk0)), rfl, bel.frame _, fun h => by cases h⟩
theorem proved : Rows.DiskFlipSaid :=
  OpenClaim.holds_of_wide 5 Try.f5 rfl rfl rfl rfl rfl rfl rfl ⟨rfl, rfl, rfl, rfl, rfl⟩ rfl rfl rfl rfl rfl (by kernel_rfl) Try.func5 (by kernel_rfl)
    (of_decide_eq_true (by kernel_rfl)) (by unfold Func.isWrapper; first | (rw [if_pos (by decide +kernel)]; kernel_rfl) | (rw [if_neg (by decide +kernel)]; exact ⟨rfl, rfl⟩))
    (fun os started H enc _ => lifted os started H enc)
#print axioms proved
end Go.Proofs.Ythnlepmfjhhgfaa.diskFlip
namespace Go.Proofs.Ythnlepmfjhhgfaa
/-- The row, under a short name, for the claim. -/
theorem diskFlip_holds : Rows.DiskFlipSaid := diskFlip.proved
end Go.Proofs.Ythnlepmfjhhgfaa
