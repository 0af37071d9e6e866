/-
  The law JournalOpen (what it reads of bulk at most 1048576), whole: out of the printed contract of its machine side and the pure statement. Condition: the Upto form's own bound.
-/
import Derived.Test.YthnlepmfjhhgfaaRows
import Derived.Test.YthnlepmfjhhgfaaXOpen
import Derived.Test.YthnlepmfjhhgfaaPJournalOpenx8
import Derived.Test.YthnlepmfjhhgfaaPureJournalOpen
import Derived.WalkKit
import Derived.ProofKit
import Derived.OpenShut
import Derived.ShutString
import Derived.ChangeOld
import Derived.Below
import Derived.SizedLaws
import Derived.JoinedCond
import Derived.Carry
import Derived.Lib.SmallJoins
namespace Go.Proofs.Ythnlepmfjhhgfaa.journalOpen
open Go.ChangeShapes Go.WideShapes Go.ChangeAt Go.RowKit
open Go.ChangeMaps (open_string shut_string)
open Go.Proofs.Ythnlepmfjhhgfaa.XOpen Go.Proofs.YthnlepmfjhhgfaaW.PrintWords Go.Proofs.YthnlepmfjhhgfaaW.PrintLast Go.Proofs.YthnlepmfjhhgfaaW.PrintMore
set_option linter.unusedVariables false
theorem own : ownKnob Try.prog.godebug = none := by kernel_rfl
theorem laidOut : laidOutB Try.prog = true := by kernel_rfl
set_option maxRecDepth 100000 in
theorem lifted (os : Os) (started : os.Started) (H : Type) (enc : TypeId × Value → H) (F : Stop.Interp) :
    ReturnsInHanded {} Try.checked os 9 .any ((Rows.OpenSpec.upto Rows.journalOpenSpec).pre6 enc Try.prog Try.f9 Rows.journalOpenUptoRow.domain false) (((Rows.OpenSpec.upto Rows.journalOpenSpec).at F).post enc Try.prog Try.f9 false true false false) := by
  refine returnsInHanded_of_cond (C := Try.checked) (s := Rows.OpenSpec.upto Rows.journalOpenSpec) (k := Rows.uptoSmall) rfl own started (by kernel_rfl) Try.func9
    (OpenSpec.witness (enc := enc) (C := Try.checked) (s := Rows.OpenSpec.upto Rows.journalOpenSpec) (k := Rows.uptoSmall) rfl false ⟨#[], #[.slice none 0 0, .slice none 0 0, .agg #[.slice none 0 0, .slice none 0 0], .agg #[.int .i64 0, .slice none 0 0], .bool false], []⟩ 8 (by kernel_rfl) (by kernel_rfl) (by kernel_rfl)
      (x := ([.nil, .nil, .agg [.nil, .nil], .agg [.lit (.int .i64 0), .nil], .lit (.bool false)], [], [])) (by kernel_rfl) rfl (by kernel_rfl)) ?_
  intro W base args ds gs before hval0 hW _ hk0 _
  have hval : ∀ (j : Nat) t v, Try.f9.params[j]? = some t → args[j]? = some v → Value.okWide Try.prog W .any base t v := hval0
  have hW' := hW
  obtain ⟨p, q, hA0, hV, rfl, hfz, hnd⟩ := hW
  have hA : DataW.TrodAll enc Try.prog W 0 (fun _ => true) true Try.f9.params.toList args.toList ds p := hA0
  rw [Try.params9] at hA hval
  obtain ⟨v0, vs0, d0, ds0, p0, q0, hargs, rfl, rfl, h0, r0⟩ := trodAll_cons hA
  obtain ⟨v1, vs1, d1, ds1, p1, q1, rfl, rfl, rfl, h1, r1⟩ := trodAll_cons r0
  obtain ⟨v2, vs2, d2, ds2, p2, q2, rfl, rfl, rfl, h2, r2⟩ := trodAll_cons r1
  obtain ⟨v3, vs3, d3, ds3, p3, q3, rfl, rfl, rfl, h3, r3⟩ := trodAll_cons r2
  obtain ⟨v4, vs4, d4, ds4, p4, q4, rfl, rfl, rfl, h4, r4⟩ := trodAll_cons r3
  obtain ⟨rfl, rfl, rfl⟩ := trodAll_nil r4
  obtain rfl : args = #[v0, v1, v2, v3, v4] := by cases args; simp_all
  obtain ⟨rfl, rfl⟩ := trodVars_none hV
  have hbk : Rows.uptoBulkAll [d0, d1, d2, d3, d4] ≤ 1048576 := of_decide_eq_true (show Rows.uptoSmall H [d0, d1, d2, d3, d4] = true by simpa only [List.append_nil] using hk0)
  clear hk0
  clear hA0 hval0
  have k0 := h0
  have lt0 : ∀ x ∈ p0, x.block < W.heap.size := by obtain ⟨m, hm⟩ := k0; exact DataW.trod_lt m _ _ _ hm
  obtain ⟨s0, n0, m0, rfl⟩ := okWide_slice Try.underlying34 (hval 0 34 v0 rfl rfl)
  obtain ⟨fu0, hf0⟩ := h0
  have hg0 : DataW.trod enc Try.prog W 0 (fun _ => true) true fu0 34 [.slice s0 n0 m0] = some (d0, p0) := hf0
  obtain ⟨A0, c0, l0, he0, hr0, hc0, hw0⟩ := open_rows Try.underlying34 (by kernel_rfl) Try.underlying22 Try.underlying5 (by kernel_rfl) hg0
  rw [he0] at k0
  simp only [Value.slice.injEq] at he0
  obtain ⟨e1_, e2_, e3_⟩ := he0
  have e1_ := e1_.symm; have e3_ := e3_.symm; subst e1_; subst e2_; subst e3_
  have k1 := h1
  have lt1 : ∀ x ∈ p1, x.block < W.heap.size := by obtain ⟨m, hm⟩ := k1; exact DataW.trod_lt m _ _ _ hm
  obtain ⟨s1, n1, m1, rfl⟩ := okWide_slice Try.underlying35 (hval 1 35 v1 rfl rfl)
  obtain ⟨fu1, hf1⟩ := h1
  have hg1 : DataW.trod enc Try.prog W 0 (fun _ => true) true fu1 35 [.slice s1 n1 m1] = some (d1, p1) := hf1
  obtain ⟨A1, c1, l1, he1, hr1, hc1⟩ := open_bools Try.underlying35 Try.underlying4 (by kernel_rfl) hg1
  rw [he1] at k1
  simp only [Value.slice.injEq] at he1
  obtain ⟨e1_, e2_, e3_⟩ := he1
  have e1_ := e1_.symm; have e3_ := e3_.symm; subst e1_; subst e2_; subst e3_
  have k2 := h2
  have lt2 : ∀ x ∈ p2, x.block < W.heap.size := by obtain ⟨m, hm⟩ := k2; exact DataW.trod_lt m _ _ _ hm
  obtain ⟨v2_0, v2_1, y2_0, y2_1, fu2, rfl, hd2, _, g2_0, g2_1⟩ := Go.Joins.open_agg2 Try.underlying24 (by kernel_rfl) (by kernel_rfl) (hval 2 24 v2 rfl rfl) h2
  obtain ⟨A2_0, c2_0, l2_0, rfl, hr2_0, hc2_0, hw2_0, hR2_0, hU2_0⟩ := open_nums Try.underlying22 Try.underlying5 (by kernel_rfl) g2_0
  have hl2_0 : l2_0.length ≤ 1048576 := Nat.le_trans hU2_0 (Nat.le_trans (Nat.le_trans (bulk_field 0 rfl) (Nat.le_of_eq (congrArg Rows.uptoBulk hd2.symm))) (Nat.le_trans (bulk_part 2 rfl) hbk))
  obtain ⟨A2_1, c2_1, l2_1, rfl, hr2_1, hc2_1, hw2_1, hR2_1, hU2_1⟩ := open_nums Try.underlying22 Try.underlying5 (by kernel_rfl) g2_1
  have hl2_1 : l2_1.length ≤ 1048576 := Nat.le_trans hU2_1 (Nat.le_trans (Nat.le_trans (bulk_field 1 rfl) (Nat.le_of_eq (congrArg Rows.uptoBulk hd2.symm))) (Nat.le_trans (bulk_part 2 rfl) hbk))
  have k3 := h3
  have lt3 : ∀ x ∈ p3, x.block < W.heap.size := by obtain ⟨m, hm⟩ := k3; exact DataW.trod_lt m _ _ _ hm
  obtain ⟨v3_0, v3_1, y3_0, y3_1, fu3, rfl, hd3, _, g3_0, g3_1⟩ := Go.Joins.open_agg2 Try.underlying43 (by kernel_rfl) (by kernel_rfl) (hval 3 43 v3 rfl rfl) h3
  obtain ⟨a3_0, ea3_0, _, w3_0⟩ := DataW.trod_int Try.underlying3 g3_0
  simp only [List.cons.injEq, and_true] at ea3_0
  subst ea3_0
  obtain ⟨A3_1, c3_1, l3_1, rfl, hr3_1, hc3_1, hw3_1, hR3_1, hU3_1⟩ := open_nums Try.underlying22 Try.underlying5 (by kernel_rfl) g3_1
  have hl3_1 : l3_1.length ≤ 1048576 := Nat.le_trans hU3_1 (Nat.le_trans (Nat.le_trans (bulk_field 1 rfl) (Nat.le_of_eq (congrArg Rows.uptoBulk hd3.symm))) (Nat.le_trans (bulk_part 3 rfl) hbk))
  obtain ⟨a4, rfl, rfl, rfl⟩ := open_bool Try.underlying4 (hval 4 4 v4 rfl rfl) h4
  obtain ⟨k, h⟩ := Go.Proofs.Ythnlepmfjhhgfaa.PureJournalOpen.pure l0 hw0 l1 l2_0 hw2_0 hl2_0 l2_1 hw2_1 hl2_1 a3_0 w3_0 l3_1 hw3_1 hl3_1 a4
  refine (Go.Proofs.Ythnlepmfjhhgfaa.PJournalOpen.customslaw34_JournalOpen.calls k (fun k_ => k_ < W.heap.size) A0 c0 l0 A1 c1 l1 (fun k_ => k_ < W.heap.size) A2_0 c2_0 l2_0 (fun k_ => k_ < W.heap.size) A2_1 c2_1 l2_1 a3_0 (fun k_ => k_ < W.heap.size) A3_1 c3_1 l3_1 a4 W (Kd.V_mk hc0 (Kd.C_F (Kd.heap_slice 5 (Kd.heap_int .u8)) hr0)) hr1 hc1 (Kd.V_mk hc2_0 (Kd.C_F (Kd.heap_int .u8) hr2_0)) (Kd.V_mk hc2_1 (Kd.C_F (Kd.heap_int .u8) hr2_1)) (Kd.V_mk hc3_1 (Kd.C_F (Kd.heap_int .u8) hr3_1)) h).mono fun e W' ⟨he, bel0⟩ => ?_
  have bel : Below W.heap.size W W' := bel0
  subst he
  exact ⟨_, rfl, _, _, _, [], _, [], hW', trodAll_mk1 (shut_bool Try.underlying4 _), (trodAll_cons_mk (Below.trod laidOut (by kernel_rfl) (of_decide_eq_true (by kernel_rfl)) k0 bel lt0) (trodAll_cons_mk (Below.trod laidOut (by kernel_rfl) (of_decide_eq_true (by kernel_rfl)) k1 bel lt1) (trodAll_cons_mk (Below.trod laidOut (by kernel_rfl) (of_decide_eq_true (by kernel_rfl)) k2 bel lt2) (trodAll_cons_mk (Below.trod laidOut (by kernel_rfl) (of_decide_eq_true (by kernel_rfl)) k3 bel lt3) (trodAll_cons_mk (shut_bool Try.underlying4 _) trodAll_mk0))))), rfl, bel.frame _, fun h => by cases h⟩
theorem proved : Rows.JournalOpenUptoSaid :=
  OpenClaim.holds_of_cond 9 Try.f9 rfl rfl rfl rfl rfl rfl rfl ⟨rfl, rfl, rfl, rfl, rfl⟩ rfl rfl rfl rfl rfl (by kernel_rfl) Try.func9 (by kernel_rfl)
    (of_decide_eq_true (by kernel_rfl)) (by unfold Func.isWrapper; first | (rw [if_pos (by decide +kernel)]; kernel_rfl) | (rw [if_neg (by decide +kernel)]; exact ⟨rfl, rfl⟩))
    (fun os started H enc _ F => lifted os started H enc F)
#print axioms proved
end Go.Proofs.Ythnlepmfjhhgfaa.journalOpen
namespace Go.Proofs.Ythnlepmfjhhgfaa
/-- The row, under a short name, for the claim. -/
theorem journalOpen_holds : Rows.JournalOpenUptoSaid := journalOpen.proved
end Go.Proofs.Ythnlepmfjhhgfaa
