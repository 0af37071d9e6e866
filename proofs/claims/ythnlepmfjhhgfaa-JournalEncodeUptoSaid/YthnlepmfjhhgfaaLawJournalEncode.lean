/-
  The law JournalEncode (what it reads of bulk at most 1048576), whole: out of the printed contract of its machine side and the pure statement. Condition: the Upto form's own bound.
-/
import Derived.Test.YthnlepmfjhhgfaaRows
import Derived.Test.YthnlepmfjhhgfaaXOpen
import Derived.Test.YthnlepmfjhhgfaaPJournalEncodex5
import Derived.Test.YthnlepmfjhhgfaaPureJournalEncode
import Derived.WalkKit
import Derived.ProofKit
import Derived.OpenShut
import Derived.ShutString
import Derived.ChangeOld
import Derived.Below
import Derived.SizedLaws
import Derived.JoinedCond
import Derived.Carry
import Derived.Lib.SmallJoins
namespace Go.Proofs.Ythnlepmfjhhgfaa.journalEncode
open Go.ChangeShapes Go.WideShapes Go.ChangeAt Go.RowKit
open Go.ChangeMaps (open_string shut_string)
open Go.Proofs.Ythnlepmfjhhgfaa.XOpen Go.Proofs.YthnlepmfjhhgfaaW.PrintWords Go.Proofs.YthnlepmfjhhgfaaW.PrintLast Go.Proofs.YthnlepmfjhhgfaaW.PrintMore
set_option linter.unusedVariables false
theorem own : ownKnob Try.prog.godebug = none := by kernel_rfl
theorem laidOut : laidOutB Try.prog = true := by kernel_rfl
set_option maxRecDepth 100000 in
theorem lifted (os : Os) (started : os.Started) (H : Type) (enc : TypeId × Value → H) (F : Stop.Interp) :
    ReturnsInHanded {} Try.checked os 7 .any ((Rows.OpenSpec.upto Rows.journalEncodeSpec).pre6 enc Try.prog Try.f7 Rows.journalEncodeUptoRow.domain false) (((Rows.OpenSpec.upto Rows.journalEncodeSpec).at F).post enc Try.prog Try.f7 false true false false) := by
  refine returnsInHanded_of_cond (C := Try.checked) (s := Rows.OpenSpec.upto Rows.journalEncodeSpec) (k := Rows.uptoSmall) rfl own started (by kernel_rfl) Try.func7
    (OpenSpec.witness (enc := enc) (C := Try.checked) (s := Rows.OpenSpec.upto Rows.journalEncodeSpec) (k := Rows.uptoSmall) rfl false ⟨#[], #[.agg #[.int .i64 0, .slice none 0 0], .slice none 0 0], []⟩ 8 (by kernel_rfl) (by kernel_rfl) (by kernel_rfl)
      (x := ([.agg [.lit (.int .i64 0), .nil], .nil], [], [])) (by kernel_rfl) rfl (by kernel_rfl)) ?_
  intro W base args ds gs before hval0 hW _ hk0 _
  have hval : ∀ (j : Nat) t v, Try.f7.params[j]? = some t → args[j]? = some v → Value.okWide Try.prog W .any base t v := hval0
  have hW' := hW
  obtain ⟨p, q, hA0, hV, rfl, hfz, hnd⟩ := hW
  have hA : DataW.TrodAll enc Try.prog W 0 (fun _ => true) true Try.f7.params.toList args.toList ds p := hA0
  rw [Try.params7] at hA hval
  obtain ⟨v0, vs0, d0, ds0, p0, q0, hargs, rfl, rfl, h0, r0⟩ := trodAll_cons hA
  obtain ⟨v1, vs1, d1, ds1, p1, q1, rfl, rfl, rfl, h1, r1⟩ := trodAll_cons r0
  obtain ⟨rfl, rfl, rfl⟩ := trodAll_nil r1
  obtain rfl : args = #[v0, v1] := by cases args; simp_all
  obtain ⟨rfl, rfl⟩ := trodVars_none hV
  have hbk : Rows.uptoBulkAll [d0, d1] ≤ 1048576 := of_decide_eq_true (show Rows.uptoSmall H [d0, d1] = true by simpa only [List.append_nil] using hk0)
  clear hk0
  clear hA0 hval0
  have k0 := h0
  have lt0 : ∀ x ∈ p0, x.block < W.heap.size := by obtain ⟨m, hm⟩ := k0; exact DataW.trod_lt m _ _ _ hm
  obtain ⟨v0_0, v0_1, y0_0, y0_1, fu0, rfl, hd0, _, g0_0, g0_1⟩ := Go.Joins.open_agg2 Try.underlying43 (by kernel_rfl) (by kernel_rfl) (hval 0 43 v0 rfl rfl) h0
  obtain ⟨a0_0, ea0_0, _, w0_0⟩ := DataW.trod_int Try.underlying3 g0_0
  simp only [List.cons.injEq, and_true] at ea0_0
  subst ea0_0
  obtain ⟨A0_1, c0_1, l0_1, rfl, hr0_1, hc0_1, hw0_1, hR0_1, hU0_1⟩ := open_nums Try.underlying22 Try.underlying5 (by kernel_rfl) g0_1
  have hl0_1 : l0_1.length ≤ 1048576 := Nat.le_trans hU0_1 (Nat.le_trans (Nat.le_trans (bulk_field 1 rfl) (Nat.le_of_eq (congrArg Rows.uptoBulk hd0.symm))) (Nat.le_trans (bulk_part 0 rfl) hbk))
  have k1 := h1
  have lt1 : ∀ x ∈ p1, x.block < W.heap.size := by obtain ⟨m, hm⟩ := k1; exact DataW.trod_lt m _ _ _ hm
  obtain ⟨s1, n1, m1, rfl⟩ := okWide_slice Try.underlying22 (hval 1 22 v1 rfl rfl)
  obtain ⟨fu1, hf1⟩ := h1
  have hg1 : DataW.trod enc Try.prog W 0 (fun _ => true) true fu1 22 [.slice s1 n1 m1] = some (d1, p1) := hf1
  obtain ⟨A1, c1, l1, he1, hr1, hc1, hw1, hR1, hU1⟩ := open_nums Try.underlying22 Try.underlying5 (by kernel_rfl) hg1
  rw [he1] at k1
  have hl1 : l1.length ≤ 1048576 := Nat.le_trans hU1 (Nat.le_trans (bulk_part 1 rfl) hbk)
  simp only [Value.slice.injEq] at he1
  obtain ⟨e1_, e2_, e3_⟩ := he1
  have e1_ := e1_.symm; have e3_ := e3_.symm; subst e1_; subst e2_; subst e3_
  obtain ⟨k, h⟩ := Go.Proofs.Ythnlepmfjhhgfaa.PureJournalEncode.pure a0_0 w0_0 l0_1 hw0_1 hl0_1 l1 hw1 hl1
  refine (Go.Proofs.Ythnlepmfjhhgfaa.PJournalEncode.customslaw34_JournalEncode.calls k a0_0 A0_1 c0_1 l0_1 A1 c1 l1 W hr0_1 hc0_1 hr1 hc1 h).mono fun e W' ⟨he, bel0⟩ => ?_
  have bel : Below W.heap.size W W' := bel0
  subst he
  exact ⟨_, rfl, _, _, _, [], _, [], hW', trodAll_mk1 (shut_bool Try.underlying4 _), (trodAll_cons_mk (Below.trod laidOut (by kernel_rfl) (of_decide_eq_true (by kernel_rfl)) k0 bel lt0) (trodAll_cons_mk (Below.trod laidOut (by kernel_rfl) (of_decide_eq_true (by kernel_rfl)) k1 bel lt1) trodAll_mk0)), rfl, bel.frame _, fun h => by cases h⟩
theorem proved : Rows.JournalEncodeUptoSaid :=
  OpenClaim.holds_of_cond 7 Try.f7 rfl rfl rfl rfl rfl rfl rfl ⟨rfl, rfl, rfl, rfl, rfl⟩ rfl rfl rfl rfl rfl (by kernel_rfl) Try.func7 (by kernel_rfl)
    (of_decide_eq_true (by kernel_rfl)) (by unfold Func.isWrapper; first | (rw [if_pos (by decide +kernel)]; kernel_rfl) | (rw [if_neg (by decide +kernel)]; exact ⟨rfl, rfl⟩))
    (fun os started H enc _ F => lifted os started H enc F)
#print axioms proved
end Go.Proofs.Ythnlepmfjhhgfaa.journalEncode
namespace Go.Proofs.Ythnlepmfjhhgfaa
/-- The row, under a short name, for the claim. -/
theorem journalEncode_holds : Rows.JournalEncodeUptoSaid := journalEncode.proved
end Go.Proofs.Ythnlepmfjhhgfaa
