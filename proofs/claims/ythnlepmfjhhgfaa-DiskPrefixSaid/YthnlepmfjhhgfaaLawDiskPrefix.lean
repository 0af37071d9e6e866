/-
  The law DiskPrefix, whole: out of the printed contract of its machine side and the pure statement. No condition beyond the row's own.
-/
import Derived.Test.YthnlepmfjhhgfaaRows
import Derived.Test.YthnlepmfjhhgfaaXOpen
import Derived.Test.YthnlepmfjhhgfaaPDiskPrefixx4
import Derived.Test.YthnlepmfjhhgfaaPureDiskPrefix
import Derived.WalkKit
import Derived.ProofKit
import Derived.OpenShut
import Derived.ShutString
import Derived.ChangeOld
import Derived.Below
import Derived.SizedLaws
import Derived.JoinedCond
import Derived.Carry
import Derived.Lib.SmallJoins
namespace Go.Proofs.Ythnlepmfjhhgfaa.diskPrefix
open Go.ChangeShapes Go.WideShapes Go.ChangeAt Go.RowKit
open Go.ChangeMaps (open_string shut_string)
open Go.Proofs.Ythnlepmfjhhgfaa.XOpen Go.Proofs.YthnlepmfjhhgfaaW.PrintWords Go.Proofs.YthnlepmfjhhgfaaW.PrintLast Go.Proofs.YthnlepmfjhhgfaaW.PrintMore
set_option linter.unusedVariables false
theorem own : ownKnob Try.prog.godebug = none := by kernel_rfl
theorem laidOut : laidOutB Try.prog = true := by kernel_rfl
set_option maxRecDepth 100000 in
theorem lifted (os : Os) (started : os.Started) (H : Type) (enc : TypeId × Value → H) :
    ReturnsInHanded {} Try.checked os 4 .any (Rows.diskPrefixSpec.pre6 enc Try.prog Try.f4 Rows.diskPrefixRow.domain false) (Rows.diskPrefixSpec.post enc Try.prog Try.f4 false true false false) := by
  refine returnsInHanded_of_change_sized (C := Try.checked) own started (by kernel_rfl) Try.func4
    (ChangeSpec.witness6 (enc := enc) (C := Try.checked) false ⟨#[], #[.slice none 0 0, .slice none 0 0, .int .i64 0], []⟩ 8 (by kernel_rfl) (by kernel_rfl) (by kernel_rfl) (by kernel_rfl)) ?_
  intro W base args ds gs before hval0 hW hcnd hsz0 _
  have hsz1 : (DataW.weightsEach Try.prog (Try.f4.params.toList ++ Rows.diskPrefixSpec.plain.varTypes Try.prog) (ds ++ gs)).all (· ≤ reachBytes) = true := hsz0
  have hval : ∀ (j : Nat) t v, Try.f4.params[j]? = some t → args[j]? = some v → Value.okWide Try.prog W .any base t v := hval0
  have hW' := hW
  obtain ⟨p, q, hA0, hV, rfl, hfz, hnd⟩ := hW
  have hA : DataW.TrodAll enc Try.prog W 0 (fun _ => true) true Try.f4.params.toList args.toList ds p := hA0
  rw [Try.params4] at hA hval hsz1
  obtain ⟨v0, vs0, d0, ds0, p0, q0, hargs, rfl, rfl, h0, r0⟩ := trodAll_cons hA
  obtain ⟨v1, vs1, d1, ds1, p1, q1, rfl, rfl, rfl, h1, r1⟩ := trodAll_cons r0
  obtain ⟨v2, vs2, d2, ds2, p2, q2, rfl, rfl, rfl, h2, r2⟩ := trodAll_cons r1
  obtain ⟨rfl, rfl, rfl⟩ := trodAll_nil r2
  obtain rfl : args = #[v0, v1, v2] := by cases args; simp_all
  obtain ⟨rfl, rfl⟩ := trodVars_none hV
  have hsz : (DataW.weightsEach Try.prog [34, 35, 3] [d0, d1, d2]).all (· ≤ reachBytes) = true := hsz1
  clear hsz0 hsz1
  clear hA0 hval0
  have k0 := h0
  have lt0 : ∀ x ∈ p0, x.block < W.heap.size := by obtain ⟨m, hm⟩ := k0; exact DataW.trod_lt m _ _ _ hm
  obtain ⟨s0, n0, m0, rfl⟩ := okWide_slice Try.underlying34 (hval 0 34 v0 rfl rfl)
  obtain ⟨fu0, hf0⟩ := h0
  have hg0 : DataW.trod enc Try.prog W 0 (fun _ => true) true fu0 34 [.slice s0 n0 m0] = some (d0, p0) := hf0
  obtain ⟨A0, c0, l0, he0, hr0, hc0, hw0⟩ := open_rows Try.underlying34 (by kernel_rfl) Try.underlying22 Try.underlying5 (by kernel_rfl) hg0
  rw [he0] at k0
  simp only [Value.slice.injEq] at he0
  obtain ⟨e1_, e2_, e3_⟩ := he0
  have e1_ := e1_.symm; have e3_ := e3_.symm; subst e1_; subst e2_; subst e3_
  have k1 := h1
  have lt1 : ∀ x ∈ p1, x.block < W.heap.size := by obtain ⟨m, hm⟩ := k1; exact DataW.trod_lt m _ _ _ hm
  obtain ⟨s1, n1, m1, rfl⟩ := okWide_slice Try.underlying35 (hval 1 35 v1 rfl rfl)
  obtain ⟨fu1, hf1⟩ := h1
  have hg1 : DataW.trod enc Try.prog W 0 (fun _ => true) true fu1 35 [.slice s1 n1 m1] = some (d1, p1) := hf1
  obtain ⟨A1, c1, l1, he1, hr1, hc1⟩ := open_bools Try.underlying35 Try.underlying4 (by kernel_rfl) hg1
  rw [he1] at k1
  simp only [Value.slice.injEq] at he1
  obtain ⟨e1_, e2_, e3_⟩ := he1
  have e1_ := e1_.symm; have e3_ := e3_.symm; subst e1_; subst e2_; subst e3_
  obtain ⟨a2, rfl, rfl, rfl, w2⟩ := open_int Try.underlying3 (hval 2 3 v2 rfl rfl) h2
  obtain ⟨k, h⟩ := Go.Proofs.Ythnlepmfjhhgfaa.PureDiskPrefix.pure l0 hw0 l1 a2 w2
  refine (Go.Proofs.Ythnlepmfjhhgfaa.PDiskPrefix.customslaw33_DiskPrefix.calls k (fun k_ => k_ < W.heap.size) A0 c0 l0 A1 c1 l1 a2 W (Kd.V_mk hc0 (Kd.C_F (Kd.heap_slice 5 (Kd.heap_int .u8)) hr0)) hr1 hc1 h).mono fun e W' ⟨he, bel0⟩ => ?_
  have bel : Below W.heap.size W W' := bel0
  subst he
  exact ⟨_, rfl, _, _, _, [], _, [], hW', trodAll_mk1 (shut_bool Try.underlying4 _), (trodAll_cons_mk (Below.trod laidOut (by kernel_rfl) (of_decide_eq_true (by kernel_rfl)) k0 bel lt0) (trodAll_cons_mk (Below.trod laidOut (by kernel_rfl) (of_decide_eq_true (by kernel_rfl)) k1 bel lt1) (trodAll_cons_mk (shut_int Try.underlying3 w2) trodAll_mk0))), rfl, bel.frame _, fun h => by cases h⟩
theorem proved : Rows.DiskPrefixSaid :=
  OpenClaim.holds_of_wide 4 Try.f4 rfl rfl rfl rfl rfl rfl rfl ⟨rfl, rfl, rfl, rfl, rfl⟩ rfl rfl rfl rfl rfl (by kernel_rfl) Try.func4 (by kernel_rfl)
    (of_decide_eq_true (by kernel_rfl)) (by unfold Func.isWrapper; first | (rw [if_pos (by decide +kernel)]; kernel_rfl) | (rw [if_neg (by decide +kernel)]; exact ⟨rfl, rfl⟩))
    (fun os started H enc _ => lifted os started H enc)
#print axioms proved
end Go.Proofs.Ythnlepmfjhhgfaa.diskPrefix
namespace Go.Proofs.Ythnlepmfjhhgfaa
/-- The row, under a short name, for the claim. -/
theorem diskPrefix_holds : Rows.DiskPrefixSaid := diskPrefix.proved
end Go.Proofs.Ythnlepmfjhhgfaa
