/-
  The law DiskCrash (what it reads of bulk at most 1048576), whole: out of the printed contract of its machine side and the pure statement. Condition: the Upto form's own bound.
-/
import Derived.Test.YthnlepmfjhhgfaaRows
import Derived.Test.YthnlepmfjhhgfaaXOpen
import Derived.Test.YthnlepmfjhhgfaaPDiskCrashx5
import Derived.Test.YthnlepmfjhhgfaaPureDiskCrash
import Derived.WalkKit
import Derived.ProofKit
import Derived.OpenShut
import Derived.ShutString
import Derived.ChangeOld
import Derived.Below
import Derived.SizedLaws
import Derived.JoinedCond
import Derived.Carry
import Derived.Lib.SmallJoins
namespace Go.Proofs.Ythnlepmfjhhgfaa.diskCrash
open Go.ChangeShapes Go.WideShapes Go.ChangeAt Go.RowKit
open Go.ChangeMaps (open_string shut_string)
open Go.Proofs.Ythnlepmfjhhgfaa.XOpen Go.Proofs.YthnlepmfjhhgfaaW.PrintWords Go.Proofs.YthnlepmfjhhgfaaW.PrintLast Go.Proofs.YthnlepmfjhhgfaaW.PrintMore
set_option linter.unusedVariables false
theorem own : ownKnob Try.prog.godebug = none := by kernel_rfl
theorem laidOut : laidOutB Try.prog = true := by kernel_rfl
set_option maxRecDepth 100000 in
theorem lifted (os : Os) (started : os.Started) (H : Type) (enc : TypeId × Value → H) (F : Stop.Interp) :
    ReturnsInHanded {} Try.checked os 6 .any ((Rows.OpenSpec.upto Rows.diskCrashSpec).pre6 enc Try.prog Try.f6 Rows.diskCrashUptoRow.domain false) (((Rows.OpenSpec.upto Rows.diskCrashSpec).at F).post enc Try.prog Try.f6 false true false false) := by
  refine returnsInHanded_of_cond (C := Try.checked) (s := Rows.OpenSpec.upto Rows.diskCrashSpec) (k := Rows.uptoSmall) rfl own started (by kernel_rfl) Try.func6
    (OpenSpec.witness (enc := enc) (C := Try.checked) (s := Rows.OpenSpec.upto Rows.diskCrashSpec) (k := Rows.uptoSmall) rfl false ⟨#[], #[.agg #[.slice none 0 0, .slice none 0 0], .int .i64 0, .int .i64 0, .int .i64 0, .bool false], []⟩ 8 (by kernel_rfl) (by kernel_rfl) (by kernel_rfl)
      (x := ([.agg [.nil, .nil], .lit (.int .i64 0), .lit (.int .i64 0), .lit (.int .i64 0), .lit (.bool false)], [], [])) (by kernel_rfl) rfl (by kernel_rfl)) ?_
  intro W base args ds gs before hval0 hW _ hk0 _
  have hval : ∀ (j : Nat) t v, Try.f6.params[j]? = some t → args[j]? = some v → Value.okWide Try.prog W .any base t v := hval0
  have hW' := hW
  obtain ⟨p, q, hA0, hV, rfl, hfz, hnd⟩ := hW
  have hA : DataW.TrodAll enc Try.prog W 0 (fun _ => true) true Try.f6.params.toList args.toList ds p := hA0
  rw [Try.params6] at hA hval
  obtain ⟨v0, vs0, d0, ds0, p0, q0, hargs, rfl, rfl, h0, r0⟩ := trodAll_cons hA
  obtain ⟨v1, vs1, d1, ds1, p1, q1, rfl, rfl, rfl, h1, r1⟩ := trodAll_cons r0
  obtain ⟨v2, vs2, d2, ds2, p2, q2, rfl, rfl, rfl, h2, r2⟩ := trodAll_cons r1
  obtain ⟨v3, vs3, d3, ds3, p3, q3, rfl, rfl, rfl, h3, r3⟩ := trodAll_cons r2
  obtain ⟨v4, vs4, d4, ds4, p4, q4, rfl, rfl, rfl, h4, r4⟩ := trodAll_cons r3
  obtain ⟨rfl, rfl, rfl⟩ := trodAll_nil r4
  obtain rfl : args = #[v0, v1, v2, v3, v4] := by cases args; simp_all
  obtain ⟨rfl, rfl⟩ := trodVars_none hV
  have hbk : Rows.uptoBulkAll [d0, d1, d2, d3, d4] ≤ 1048576 := of_decide_eq_true (show Rows.uptoSmall H [d0, d1, d2, d3, d4] = true by simpa only [List.append_nil] using hk0)
  clear hk0
  clear hA0 hval0
  have k0 := h0
  have lt0 : ∀ x ∈ p0, x.block < W.heap.size := by obtain ⟨m, hm⟩ := k0; exact DataW.trod_lt m _ _ _ hm
  obtain ⟨v0_0, v0_1, y0_0, y0_1, fu0, rfl, hd0, _, g0_0, g0_1⟩ := Go.Joins.open_agg2 Try.underlying24 (by kernel_rfl) (by kernel_rfl) (hval 0 24 v0 rfl rfl) h0
  obtain ⟨A0_0, c0_0, l0_0, rfl, hr0_0, hc0_0, hw0_0, hR0_0, hU0_0⟩ := open_nums Try.underlying22 Try.underlying5 (by kernel_rfl) g0_0
  have hl0_0 : l0_0.length ≤ 1048576 := Nat.le_trans hU0_0 (Nat.le_trans (Nat.le_trans (bulk_field 0 rfl) (Nat.le_of_eq (congrArg Rows.uptoBulk hd0.symm))) (Nat.le_trans (bulk_part 0 rfl) hbk))
  obtain ⟨A0_1, c0_1, l0_1, rfl, hr0_1, hc0_1, hw0_1, hR0_1, hU0_1⟩ := open_nums Try.underlying22 Try.underlying5 (by kernel_rfl) g0_1
  have hl0_1 : l0_1.length ≤ 1048576 := Nat.le_trans hU0_1 (Nat.le_trans (Nat.le_trans (bulk_field 1 rfl) (Nat.le_of_eq (congrArg Rows.uptoBulk hd0.symm))) (Nat.le_trans (bulk_part 0 rfl) hbk))
  obtain ⟨a1, rfl, rfl, rfl, w1⟩ := open_int Try.underlying3 (hval 1 3 v1 rfl rfl) h1
  obtain ⟨a2, rfl, rfl, rfl, w2⟩ := open_int Try.underlying3 (hval 2 3 v2 rfl rfl) h2
  obtain ⟨a3, rfl, rfl, rfl, w3⟩ := open_int Try.underlying3 (hval 3 3 v3 rfl rfl) h3
  obtain ⟨a4, rfl, rfl, rfl⟩ := open_bool Try.underlying4 (hval 4 4 v4 rfl rfl) h4
  obtain ⟨k, h⟩ := Go.Proofs.Ythnlepmfjhhgfaa.PureDiskCrash.pure l0_0 hw0_0 hl0_0 l0_1 hw0_1 hl0_1 a1 w1 a2 w2 a3 w3 a4
  refine (Go.Proofs.Ythnlepmfjhhgfaa.PDiskCrash.customslaw33_DiskCrash.calls k A0_0 c0_0 l0_0 A0_1 c0_1 l0_1 a1 a2 a3 a4 W hr0_0 hc0_0 hr0_1 hc0_1 h).mono fun e W' ⟨he, bel0⟩ => ?_
  have bel : Below W.heap.size W W' := bel0
  subst he
  exact ⟨_, rfl, _, _, _, [], _, [], hW', trodAll_mk1 (shut_bool Try.underlying4 _), (trodAll_cons_mk (Below.trod laidOut (by kernel_rfl) (of_decide_eq_true (by kernel_rfl)) k0 bel lt0) (trodAll_cons_mk (shut_int Try.underlying3 w1) (trodAll_cons_mk (shut_int Try.underlying3 w2) (trodAll_cons_mk (shut_int Try.underlying3 w3) (trodAll_cons_mk (shut_bool Try.underlying4 _) trodAll_mk0))))), rfl, bel.frame _, fun h => by cases h⟩
theorem proved : Rows.DiskCrashUptoSaid :=
  OpenClaim.holds_of_cond 6 Try.f6 rfl rfl rfl rfl rfl rfl rfl ⟨rfl, rfl, rfl, rfl, rfl⟩ rfl rfl rfl rfl rfl (by kernel_rfl) Try.func6 (by kernel_rfl)
    (of_decide_eq_true (by kernel_rfl)) (by unfold Func.isWrapper; first | (rw [if_pos (by decide +kernel)]; kernel_rfl) | (rw [if_neg (by decide +kernel)]; exact ⟨rfl, rfl⟩))
    (fun os started H enc _ F => lifted os started H enc F)
#print axioms proved
end Go.Proofs.Ythnlepmfjhhgfaa.diskCrash
namespace Go.Proofs.Ythnlepmfjhhgfaa
/-- The row, under a short name, for the claim. -/
theorem diskCrash_holds : Rows.DiskCrashUptoSaid := diskCrash.proved
end Go.Proofs.Ythnlepmfjhhgfaa
