/-
  The law JournalSnapshot, whole: out of the printed contract of its machine side and the pure statement. No condition beyond the row's own.
-/
import Derived.Test.YthnlepmfjhhgfaaRows
import Derived.Test.YthnlepmfjhhgfaaXOpen
import Derived.Test.YthnlepmfjhhgfaaPJournalSnapshotx5
import Derived.Test.YthnlepmfjhhgfaaPureJournalSnapshot
import Derived.WalkKit
import Derived.ProofKit
import Derived.OpenShut
import Derived.ShutString
import Derived.ChangeOld
import Derived.Below
import Derived.SizedLaws
import Derived.JoinedCond
import Derived.Carry
import Derived.Lib.SmallJoins
namespace Go.Proofs.Ythnlepmfjhhgfaa.journalSnapshot
open Go.ChangeShapes Go.WideShapes Go.ChangeAt Go.RowKit
open Go.ChangeMaps (open_string shut_string)
open Go.Proofs.Ythnlepmfjhhgfaa.XOpen Go.Proofs.YthnlepmfjhhgfaaW.PrintWords Go.Proofs.YthnlepmfjhhgfaaW.PrintLast Go.Proofs.YthnlepmfjhhgfaaW.PrintMore
set_option linter.unusedVariables false
theorem own : ownKnob Try.prog.godebug = none := by kernel_rfl
theorem laidOut : laidOutB Try.prog = true := by kernel_rfl
set_option maxRecDepth 100000 in
theorem lifted (os : Os) (started : os.Started) (H : Type) (enc : TypeId × Value → H) :
    ReturnsInHanded {} Try.checked os 11 .any (Rows.journalSnapshotSpec.pre6 enc Try.prog Try.f11 Rows.journalSnapshotRow.domain false) (Rows.journalSnapshotSpec.post enc Try.prog Try.f11 false true false false) := by
  refine returnsInHanded_of_change_sized (C := Try.checked) own started (by kernel_rfl) Try.func11
    (ChangeSpec.witness6 (enc := enc) (C := Try.checked) false ⟨#[], #[.slice none 0 0, .slice none 0 0, .slice none 0 0, .slice none 0 0, .int .i64 0], []⟩ 8 (by kernel_rfl) (by kernel_rfl) (by kernel_rfl) (by kernel_rfl)) ?_
  intro W base args ds gs before hval0 hW hcnd hsz0 _
  have hsz1 : (DataW.weightsEach Try.prog (Try.f11.params.toList ++ Rows.journalSnapshotSpec.plain.varTypes Try.prog) (ds ++ gs)).all (· ≤ reachBytes) = true := hsz0
  have hval : ∀ (j : Nat) t v, Try.f11.params[j]? = some t → args[j]? = some v → Value.okWide Try.prog W .any base t v := hval0
  have hW' := hW
  obtain ⟨p, q, hA0, hV, rfl, hfz, hnd⟩ := hW
  have hA : DataW.TrodAll enc Try.prog W 0 (fun _ => true) true Try.f11.params.toList args.toList ds p := hA0
  rw [Try.params11] at hA hval hsz1
  obtain ⟨v0, vs0, d0, ds0, p0, q0, hargs, rfl, rfl, h0, r0⟩ := trodAll_cons hA
  obtain ⟨v1, vs1, d1, ds1, p1, q1, rfl, rfl, rfl, h1, r1⟩ := trodAll_cons r0
  obtain ⟨v2, vs2, d2, ds2, p2, q2, rfl, rfl, rfl, h2, r2⟩ := trodAll_cons r1
  obtain ⟨v3, vs3, d3, ds3, p3, q3, rfl, rfl, rfl, h3, r3⟩ := trodAll_cons r2
  obtain ⟨v4, vs4, d4, ds4, p4, q4, rfl, rfl, rfl, h4, r4⟩ := trodAll_cons r3
  obtain ⟨rfl, rfl, rfl⟩ := trodAll_nil r4
  obtain rfl : args = #[v0, v1, v2, v3, v4] := by cases args; simp_all
  obtain ⟨rfl, rfl⟩ := trodVars_none hV
  have hsz : (DataW.weightsEach Try.prog [34, 34, 22, 22, 3] [d0, d1, d2, d3, d4]).all (· ≤ reachBytes) = true := hsz1
  clear hsz0 hsz1
  clear hA0 hval0
  have k0 := h0
  have lt0 : ∀ x ∈ p0, x.block < W.heap.size := by obtain ⟨m, hm⟩ := k0; exact DataW.trod_lt m _ _ _ hm
  obtain ⟨s0, n0, m0, rfl⟩ := okWide_slice Try.underlying34 (hval 0 34 v0 rfl rfl)
  obtain ⟨fu0, hf0⟩ := h0
  have hg0 : DataW.trod enc Try.prog W 0 (fun _ => true) true fu0 34 [.slice s0 n0 m0] = some (d0, p0) := hf0
  obtain ⟨A0, c0, l0, he0, hr0, hc0, hw0⟩ := open_rows Try.underlying34 (by kernel_rfl) Try.underlying22 Try.underlying5 (by kernel_rfl) hg0
  rw [he0] at k0
  simp only [Value.slice.injEq] at he0
  obtain ⟨e1_, e2_, e3_⟩ := he0
  have e1_ := e1_.symm; have e3_ := e3_.symm; subst e1_; subst e2_; subst e3_
  have k1 := h1
  have lt1 : ∀ x ∈ p1, x.block < W.heap.size := by obtain ⟨m, hm⟩ := k1; exact DataW.trod_lt m _ _ _ hm
  obtain ⟨s1, n1, m1, rfl⟩ := okWide_slice Try.underlying34 (hval 1 34 v1 rfl rfl)
  obtain ⟨fu1, hf1⟩ := h1
  have hg1 : DataW.trod enc Try.prog W 0 (fun _ => true) true fu1 34 [.slice s1 n1 m1] = some (d1, p1) := hf1
  obtain ⟨A1, c1, l1, he1, hr1, hc1, hw1⟩ := open_rows Try.underlying34 (by kernel_rfl) Try.underlying22 Try.underlying5 (by kernel_rfl) hg1
  rw [he1] at k1
  simp only [Value.slice.injEq] at he1
  obtain ⟨e1_, e2_, e3_⟩ := he1
  have e1_ := e1_.symm; have e3_ := e3_.symm; subst e1_; subst e2_; subst e3_
  have k2 := h2
  have lt2 : ∀ x ∈ p2, x.block < W.heap.size := by obtain ⟨m, hm⟩ := k2; exact DataW.trod_lt m _ _ _ hm
  obtain ⟨s2, n2, m2, rfl⟩ := okWide_slice Try.underlying22 (hval 2 22 v2 rfl rfl)
  obtain ⟨fu2, hf2⟩ := h2
  have hg2 : DataW.trod enc Try.prog W 0 (fun _ => true) true fu2 22 [.slice s2 n2 m2] = some (d2, p2) := hf2
  obtain ⟨A2, c2, l2, he2, hr2, hc2, hw2, hR2, hU2⟩ := open_nums Try.underlying22 Try.underlying5 (by kernel_rfl) hg2
  rw [he2] at k2
  have hl2 : l2.length * 1 ≤ 140737488351232 := hR2 140737488351232 (weights_arg (weights_all hsz) 2 rfl rfl)
  simp only [Value.slice.injEq] at he2
  obtain ⟨e1_, e2_, e3_⟩ := he2
  have e1_ := e1_.symm; have e3_ := e3_.symm; subst e1_; subst e2_; subst e3_
  have k3 := h3
  have lt3 : ∀ x ∈ p3, x.block < W.heap.size := by obtain ⟨m, hm⟩ := k3; exact DataW.trod_lt m _ _ _ hm
  obtain ⟨s3, n3, m3, rfl⟩ := okWide_slice Try.underlying22 (hval 3 22 v3 rfl rfl)
  obtain ⟨fu3, hf3⟩ := h3
  have hg3 : DataW.trod enc Try.prog W 0 (fun _ => true) true fu3 22 [.slice s3 n3 m3] = some (d3, p3) := hf3
  obtain ⟨A3, c3, l3, he3, hr3, hc3, hw3, hR3, hU3⟩ := open_nums Try.underlying22 Try.underlying5 (by kernel_rfl) hg3
  rw [he3] at k3
  have hl3 : l3.length * 1 ≤ 140737488351232 := hR3 140737488351232 (weights_arg (weights_all hsz) 3 rfl rfl)
  simp only [Value.slice.injEq] at he3
  obtain ⟨e1_, e2_, e3_⟩ := he3
  have e1_ := e1_.symm; have e3_ := e3_.symm; subst e1_; subst e2_; subst e3_
  obtain ⟨a4, rfl, rfl, rfl, w4⟩ := open_int Try.underlying3 (hval 4 3 v4 rfl rfl) h4
  obtain ⟨k, h⟩ := Go.Proofs.Ythnlepmfjhhgfaa.PureJournalSnapshot.pure l0 hw0 l1 hw1 l2 hw2 hl2 l3 hw3 hl3 a4 w4
  refine (Go.Proofs.Ythnlepmfjhhgfaa.PJournalSnapshot.customslaw34_JournalSnapshot.calls k A0 c0 l0 A1 c1 l1 A2 c2 l2 A3 c3 l3 a4 W hr0 hc0 hr1 hc1 hr2 hc2 hr3 hc3 h).mono fun e W' ⟨he, bel0⟩ => ?_
  have bel : Below W.heap.size W W' := bel0
  subst he
  exact ⟨_, rfl, _, _, _, [], _, [], hW', trodAll_mk1 (shut_bool Try.underlying4 _), (trodAll_cons_mk (Below.trod laidOut (by kernel_rfl) (of_decide_eq_true (by kernel_rfl)) k0 bel lt0) (trodAll_cons_mk (Below.trod laidOut (by kernel_rfl) (of_decide_eq_true (by kernel_rfl)) k1 bel lt1) (trodAll_cons_mk (Below.trod laidOut (by kernel_rfl) (of_decide_eq_true (by kernel_rfl)) k2 bel lt2) (trodAll_cons_mk (Below.trod laidOut (by kernel_rfl) (of_decide_eq_true (by kernel_rfl)) k3 bel lt3) (trodAll_cons_mk (shut_int Try.underlying3 w4) trodAll_mk0))))), rfl, bel.frame _, fun h => by cases h⟩
theorem proved : Rows.JournalSnapshotSaid :=
  OpenClaim.holds_of_wide 11 Try.f11 rfl rfl rfl rfl rfl rfl rfl ⟨rfl, rfl, rfl, rfl, rfl⟩ rfl rfl rfl rfl rfl (by kernel_rfl) Try.func11 (by kernel_rfl)
    (of_decide_eq_true (by kernel_rfl)) (by unfold Func.isWrapper; first | (rw [if_pos (by decide +kernel)]; kernel_rfl) | (rw [if_neg (by decide +kernel)]; exact ⟨rfl, rfl⟩))
    (fun os started H enc _ => lifted os started H enc)
#print axioms proved
end Go.Proofs.Ythnlepmfjhhgfaa.journalSnapshot
namespace Go.Proofs.Ythnlepmfjhhgfaa
/-- The row, under a short name, for the claim. -/
theorem journalSnapshot_holds : Rows.JournalSnapshotSaid := journalSnapshot.proved
end Go.Proofs.Ythnlepmfjhhgfaa
