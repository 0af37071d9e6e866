/-
  The pure statement of the law DiskCrash: the printed functions answer true.
-/
import Derived.Test.YthnlepmfjhhgfaaPDiskCrashx5
import Derived.KernelRfl
namespace Go.Proofs.Ythnlepmfjhhgfaa.PureDiskCrash
open Go.RowKit Go.Proofs.Ythnlepmfjhhgfaa.PDiskCrash Go.Proofs.YthnlepmfjhhgfaaW.PrintWords Go.Proofs.YthnlepmfjhhgfaaW.PrintLast Go.Proofs.YthnlepmfjhhgfaaW.PrintMore

theorem awake_true : customslaw33_awake.f = some true := by kernel_rfl

theorem joined_ok (a b : List Int) (h : a.length + b.length ≤ 281474976710656) : disk_joined.f a b = some (a ++ b) := by
  unfold disk_joined.f XJoined.joinedF
  rw [if_pos h]

theorem same_bytes (a : List Int) : customsref33_SameBytes.f a a = some true := by
  unfold customsref33_SameBytes.f
  rw [beq_self_eq_true]

theorem same_disk (a b : List Int) : customsref33_SameDisk.f a b a b = some true := by
  unfold customsref33_SameDisk.f
  rw [same_bytes, same_bytes]
  rfl

theorem wrap_small (x : Int) (h1 : -9223372036854775808 ≤ x) (h2 : x < 9223372036854775808) : wrap64 x = x := by unfold wrap64; omega

theorem within_ok (a m : Int) (h0 : 0 < m) (h1 : m ≤ 4611686018427387904) : ∃ t, customsmade_Within.f a m = some t ∧ 0 ≤ t ∧ t < m := by
  unfold customsmade_Within.f
  rw [if_neg (by omega)]
  have h2 := Int.tmod_lt_of_pos a h0
  have h3 : -m < Int.tmod a m := by
    have := Int.tmod_lt_of_pos (-a) h0
    rw [Int.neg_tmod] at this
    omega
  rw [wrap_small _ (by omega) (by omega)]
  exact ⟨_, rfl, Int.tmod_nonneg _ (by omega), Int.tmod_lt_of_pos _ h0⟩


theorem ref_read_ok (a b : List Int) (h : a.length + b.length < 140737488355328) : customsref33_Read.f a b = some (a ++ b) := by
  unfold customsref33_Read.f
  simp only [Option.bind_some, List.nil_append, List.length_nil, Nat.zero_add]
  rw [if_pos (by omega), if_pos h]

theorem wf64 {t : Int} (ht : (Lit.int .i64 t).wf = true) : -9223372036854775808 ≤ t ∧ t ≤ 9223372036854775807 := by
  have := ht
  simp only [Lit.wf, Bool.and_eq_true, decide_eq_true_eq] at this
  exact this

theorem flips (a b : List Int) (t : Int) (ht : -9223372036854775808 ≤ t ∧ t ≤ 9223372036854775807) (ha : a.length ≤ 1048576) (hb : b.length ≤ 1048576) : ∃ x y, disk_Flip.f a b t = some (x, y) ∧ customsref33_Flip.f a b t = some (x, y) := by
  unfold disk_Flip.f customsref33_Flip.f
  rw [joined_ok _ _ (by simp; omega), joined_ok _ _ (by simp; omega)]
  simp only [Option.bind_some, List.append_nil, List.nil_append, List.length_nil, Nat.zero_add]
  by_cases h : t ≥ 0
  · have e1 := Int.tdiv_eq_ediv_of_nonneg (b := 8) h
    have e2 := Int.tmod_eq_emod_of_nonneg (b := 8) h
    rw [e1, e2, wrap_small _ (by omega) (by omega), if_pos h, if_neg (show ¬ t < 0 by omega)]
    by_cases h2 : t / 8 < (a.length : Int)
    · rw [if_pos h2, if_neg (show ¬ t / 8 ≥ (a.length : Int) by omega), if_pos (show 0 ≤ t / 8 by omega), if_pos (show 0 ≤ t % 8 by omega), if_pos (by omega), if_pos (by omega), if_pos h2]

      exact ⟨_, _, rfl, rfl⟩
    · rw [if_neg h2, if_pos (show t / 8 ≥ (a.length : Int) by omega)]
      exact ⟨_, _, rfl, rfl⟩
  · rw [if_neg h, if_pos (show t < 0 by omega)]
    exact ⟨_, _, rfl, rfl⟩

theorem truncs (a b : List Int) (t : Int) (ha : a.length ≤ 1048576) (hb : b.length ≤ 1048576) : ∃ x y z, disk_Truncate.f a b t = some (x, y, z) ∧ customsref33_Truncate.f a b t = some (x, y, z) := by
  unfold disk_Truncate.f customsref33_Truncate.f disk_Read.f
  rw [joined_ok _ _ (by omega), ref_read_ok _ _ (by omega), wrap_small _ (by omega) (by omega)]
  simp only [Option.bind_some, List.length_append, Int.natCast_add]
  by_cases h : t < 0
  · rw [if_pos h]
    exact ⟨_, _, _, rfl, rfl⟩
  · rw [if_neg h]
    by_cases h2 : t > (a.length : Int) + (b.length : Int)
    · rw [if_pos h2]
      exact ⟨_, _, _, rfl, rfl⟩
    · rw [if_neg h2, if_pos (by omega), if_pos (by omega)]
      exact ⟨_, _, _, rfl, rfl⟩

theorem crashes (a b : List Int) (t : Int) (ha : a.length ≤ 1048576) (hb : b.length ≤ 1048576) : ∃ x y, disk_Crash.f a b t = some (x, y) ∧ customsref33_Crash.f a b t = some (x, y) := by
  unfold disk_Crash.f customsref33_Crash.f
  have h0 : 0 ≤ mn (mx t 0) (b.length : Int) ∧ mn (mx t 0) (b.length : Int) ≤ (b.length : Int) := by unfold mn mx; split <;> split <;> omega
  generalize mn (mx t 0) (b.length : Int) = m at h0
  rw [ref_read_ok _ _ (by omega), if_pos h0.1, if_pos h0.2, joined_ok _ _ (by simp; omega), wrap_small _ (by omega) (by omega)]
  simp only [Option.bind_some, List.length_append, Int.natCast_add]
  rw [if_pos (by omega), if_pos (by omega)]
  have e : ((a.length : Int) + m).toNat = a.length + m.toNat := by omega
  rw [e, List.take_length_add_append]
  exact ⟨_, _, rfl, rfl⟩

theorem join (a b : List Int) (n m t : Int) (k : Nat) (ht : -9223372036854775808 ≤ t ∧ t ≤ 9223372036854775807) (ha : a.length ≤ 1048576) (hb : b.length ≤ 1048576) : customslaw33_DiskCrash.j0 (k + 1) n m t a b = some true := by
  obtain ⟨x, y, z, h1, h2⟩ := truncs a b n ha hb
  obtain ⟨x', y', h3, h4⟩ := crashes a b m ha hb
  obtain ⟨x'', y'', h5, h6⟩ := flips a b t ht ha hb
  rw [customslaw33_DiskCrash.j0]
  rw [h1, h2, h3, h4, h5, h6, awake_true]
  simp only [Option.bind_some, same_disk, if_true]

theorem pure (l0_0 : List Int) (_hw0_0 : ∀ x ∈ l0_0, (Lit.int .u8 x).wf = true) (hl0_0 : l0_0.length ≤ 1048576) (l0_1 : List Int) (_hw0_1 : ∀ x ∈ l0_1, (Lit.int .u8 x).wf = true) (hl0_1 : l0_1.length ≤ 1048576) (a1 : Int) (_w1 : (Lit.int .i64 a1).wf = true) (a2 : Int) (_w2 : (Lit.int .i64 a2).wf = true) (a3 : Int) (w3 : (Lit.int .i64 a3).wf = true) (a4 : Bool) :
    ∃ k, customslaw33_DiskCrash.f k l0_0 l0_1 a1 a2 a3 a4 = some true := by
  refine ⟨1, ?_⟩
  unfold customslaw33_DiskCrash.f
  by_cases h : a4 = true
  · rw [if_pos h]
    exact join _ _ _ _ _ _ (wf64 w3) hl0_0 hl0_1
  · rw [if_neg h, wrap_small _ (by rw [wrap_small _ (by omega) (by omega)]; omega) (by rw [wrap_small _ (by omega) (by omega)]; omega), wrap_small _ (by omega) (by omega), wrap_small ((l0_1.length : Int) + 3) (by omega) (by omega), wrap_small (wrap64 (8 * (l0_0.length : Int)) + 9) (by rw [wrap_small _ (by omega) (by omega)]; omega) (by rw [wrap_small _ (by omega) (by omega)]; omega), wrap_small (8 * (l0_0.length : Int)) (by omega) (by omega)]
    obtain ⟨x, e1, x0, x1⟩ := within_ok a1 ((l0_0.length : Int) + (l0_1.length : Int) + 2) (by omega) (by omega)
    obtain ⟨y, e2, y0, y1⟩ := within_ok a2 ((l0_1.length : Int) + 3) (by omega) (by omega)
    obtain ⟨z, e3, z0, z1⟩ := within_ok a3 (8 * (l0_0.length : Int) + 9) (by omega) (by omega)
    rw [e1, e2, e3]
    simp only [Option.bind_some]
    exact join _ _ _ _ _ _ (by unfold wrap64; omega) hl0_0 hl0_1
end Go.Proofs.Ythnlepmfjhhgfaa.PureDiskCrash
