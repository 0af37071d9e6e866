/-
  The pure statement of the law DiskPrefix: the printed functions answer true. (Put together by wip/prt/frag/pure.py.)
-/
import Derived.Test.YthnlepmfjhhgfaaPDiskPrefixx4
import Derived.Test.YthnlepmfjhhgfaaPureFrame
import Derived.KernelRfl
namespace Go.Proofs.Ythnlepmfjhhgfaa.PureDiskPrefix
set_option linter.unusedVariables false
open Go.RowKit Go.Proofs.Ythnlepmfjhhgfaa.PDiskPrefix Go.Proofs.Ythnlepmfjhhgfaa.PureFrame Go.Proofs.YthnlepmfjhhgfaaW.PrintWords Go.Proofs.YthnlepmfjhhgfaaW.PrintLast Go.Proofs.YthnlepmfjhhgfaaW.PrintMore

theorem awake_true : customslaw33_awake.f = some true := by kernel_rfl

theorem joined_ok (a b : List Int) (h : a.length + b.length ≤ 281474976710656) : disk_joined.f a b = some (a ++ b) := by
  unfold disk_joined.f XJoined.joinedF
  rw [if_pos h]

theorem read_ok (a b : List Int) (h : a.length + b.length ≤ 281474976710656) : disk_Read.f a b = some (a ++ b) := by
  unfold disk_Read.f
  rw [joined_ok a b h]
  rfl

theorem sync_ok (a b : List Int) (h : a.length + b.length ≤ 281474976710656) : disk_Sync.f a b = some (a ++ b, []) := by
  unfold disk_Sync.f
  rw [read_ok a b h]
  rfl

theorem write_ok (s q b : List Int) (h : s.length + q.length + b.length ≤ 1000000) : disk_Write.f s q b = some (s, q ++ b, 0) := by
  unfold disk_Write.f
  rw [wrapS ((s.length : Int) + (q.length : Int)) (by omega) (by omega), wrapS _ (by omega) (by omega), if_neg (by omega), joined_ok _ _ (by simp; omega), joined_ok _ _ (by omega)]
  simp only [bindS, List.append_nil]

theorem crash_ok (s q : List Int) (t : Int) (h : s.length + q.length ≤ 281474976710656) : ∃ m : Nat, m ≤ q.length ∧ disk_Crash.f s q t = some (s ++ q.take m, []) := by
  unfold disk_Crash.f
  have h0 : 0 ≤ mn (mx t 0) (q.length : Int) ∧ mn (mx t 0) (q.length : Int) ≤ (q.length : Int) := by unfold mn mx; split <;> split <;> omega
  generalize mn (mx t 0) (q.length : Int) = m at h0
  refine ⟨m.toNat, by omega, ?_⟩
  rw [if_pos h0.1, if_pos h0.2, joined_ok _ _ (by rw [List.length_take]; omega)]
  simp only [bindS]

theorem rdL1_ge (l : List (List Int)) (i : Nat) (h : i < l.length) : rd_L1 l (i : Int) = l[i] := by
  unfold rd_L1
  rw [Int.toNat_natCast, List.getD_eq_getElem?_getD, List.getElem?_eq_getElem h]
  rfl

theorem final (x0 : List (List Int)) (x1 : List Bool) (x2 : Int) (i : Int) (c d : List Int) (h : (c ++ d).length ≤ 30000) (k : Nat) : customslaw33_DiskPrefix.j1 (k + 1) x0 x1 x2 (c ++ d) (c.length : Int) i false c d = some true := by
  rw [List.length_append] at h
  obtain ⟨m, hm, hc⟩ := crash_ok c d x2 (by omega)
  have hl : (c ++ d.take m).length = c.length + m := by rw [List.length_append, List.length_take]; omega
  have ht : (c ++ d).take (c.length + m) = c ++ d.take m := by rw [List.take_length_add_append]
  rw [customslaw33_DiskPrefix.j1, if_neg (by simp), hc]
  simp only [bindS]
  rw [read_ok _ _ (by simp only [List.length_nil]; omega)]
  simp only [bindS, List.append_nil, hl]
  rw [if_pos (by omega), if_pos (by rw [List.length_append]; omega), if_pos (by omega), Int.toNat_natCast, ht, if_pos rfl, read_ok _ _ (by omega)]
  simp only [bindS]
  rw [if_pos trivial, awake_true]
  simp only [bindS]

theorem loop (x0 : List (List Int)) (x1 : List Bool) (x2 : Int) : ∀ (m i : Nat) (c d : List Int) (k : Nat), i + m = min x0.length 30 → (c ++ d).length ≤ i * 1000 →
    customslaw33_DiskPrefix.l0 (k + 3 * m + 2) x0 x1 x2 (c ++ d) (c.length : Int) (i : Int) c d = some true := by
  intro m
  induction m with
  | zero =>
    intro i c d k hi hl
    rw [customslaw33_DiskPrefix.l0]
    by_cases h : (i : Int) < (x0.length : Int)
    · have hf : decide ((i : Int) < 30) = false := decide_eq_false (by omega)
      rw [if_pos h, hf]
      exact final x0 x1 x2 i c d (by omega) _
    · rw [if_neg h]
      exact final x0 x1 x2 i c d (by omega) _
  | succ m ih =>
    intro i c d k hi hl
    have hlt : i < x0.length := by omega
    have hf : decide ((i : Int) < 30) = true := decide_eq_true (by omega)
    have e : k + 3 * (m + 1) + 2 = (k + 3 * m + 2) + 3 := by omega
    have hw : wrap64 ((i : Int) + 1) = ((i + 1 : Nat) : Int) := by rw [wrapS _ (by omega) (by omega)]; omega
    have hl2 := hl
    rw [List.length_append] at hl2
    have key : ∀ p : List Int, p.length ≤ 1000 → customslaw33_DiskPrefix.j2 ((k + 3 * m + 2) + 1) x0 x1 x2 (c ++ d) (c.length : Int) (i : Int) p c d = some true := by
      intro p hp
      have a1 := ih (i + 1) c (d ++ p) k (by omega) (by simp only [List.length_append]; omega)
      have a2 := ih (i + 1) (c ++ (d ++ p)) [] k (by omega) (by simp only [List.length_append, List.length_nil]; omega)
      rw [List.append_nil] at a2
      rw [customslaw33_DiskPrefix.j2, write_ok _ _ _ (by omega)]
      simp only [bindS, if_true]
      rw [if_pos (by rw [List.length_append]; omega), List.append_assoc, hw]
      by_cases hx : (i : Int) < (x1.length : Int)
      · rw [if_pos hx, if_pos (by omega)]
        by_cases hb : rdOf false x1 (i : Int) = true
        · rw [if_pos hb, sync_ok _ _ (by rw [List.length_append]; omega)]
          simp only [bindS]
          exact a2
        · rw [if_neg hb]
          exact a1
      · rw [if_neg hx]
        exact a1
    rw [e, customslaw33_DiskPrefix.l0, if_pos (by omega), hf, customslaw33_DiskPrefix.j1, if_pos rfl, if_pos (by omega), if_pos (by omega), rdL1_ge x0 i hlt]
    by_cases h3 : (x0[i].length : Int) > 1000
    · rw [if_pos h3, if_pos (by omega)]
      exact key _ (by rw [List.length_take]; omega)
    · rw [if_neg h3]
      exact key _ (by omega)

theorem pure (l0 : List (List Int)) (_hw0 : ∀ x ∈ l0, ∀ z ∈ x, (Lit.int .u8 z).wf = true) (l1 : List Bool) (a2 : Int) (_w2 : (Lit.int .i64 a2).wf = true) :
    ∃ k, customslaw33_DiskPrefix.f k l0 l1 a2 = some true := by
  refine ⟨0 + 3 * (min l0.length 30) + 2, ?_⟩
  unfold customslaw33_DiskPrefix.f
  exact loop l0 l1 a2 (min l0.length 30) 0 [] [] 0 (by omega) (by simp)

end Go.Proofs.Ythnlepmfjhhgfaa.PureDiskPrefix
