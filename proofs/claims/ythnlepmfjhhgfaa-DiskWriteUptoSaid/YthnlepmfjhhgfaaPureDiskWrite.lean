/-
  The pure statement of the law DiskWrite: the printed functions answer true at all lists of at most 1048576 bytes.
-/
import Derived.Test.YthnlepmfjhhgfaaPDiskWritex4
import Derived.KernelRfl
namespace Go.Proofs.Ythnlepmfjhhgfaa.PureDiskWrite
open Go.RowKit Go.Proofs.Ythnlepmfjhhgfaa.PDiskWrite Go.Proofs.YthnlepmfjhhgfaaW.PrintWords Go.Proofs.YthnlepmfjhhgfaaW.PrintLast Go.Proofs.YthnlepmfjhhgfaaW.PrintMore

theorem awake_true : customslaw33_awake.f = some true := by kernel_rfl

theorem joined_ok (a b : List Int) (h : a.length + b.length ≤ 281474976710656) : disk_joined.f a b = some (a ++ b) := by
  unfold disk_joined.f XJoined.joinedF
  rw [if_pos h]

theorem same_bytes (a : List Int) : customsref33_SameBytes.f a a = some true := by
  unfold customsref33_SameBytes.f
  rw [beq_self_eq_true]

theorem same_disk (a b : List Int) : customsref33_SameDisk.f a b a b = some true := by
  unfold customsref33_SameDisk.f
  rw [same_bytes, same_bytes]
  rfl

theorem read_ok (a b : List Int) (h : a.length + b.length ≤ 281474976710656) : disk_Read.f a b = some (a ++ b) := by
  unfold disk_Read.f
  rw [joined_ok a b h]
  rfl

theorem ref_read_ok (a b : List Int) (h : a.length + b.length < 140737488355328) : customsref33_Read.f a b = some (a ++ b) := by
  unfold customsref33_Read.f
  simp only [Option.bind_some, List.nil_append, List.length_nil, Nat.zero_add]
  rw [if_pos (by omega), if_pos h]

theorem pure (l0_0 : List Int) (_hw0_0 : ∀ x ∈ l0_0, (Lit.int .u8 x).wf = true) (hl0_0 : l0_0.length ≤ 1048576) (l0_1 : List Int) (_hw0_1 : ∀ x ∈ l0_1, (Lit.int .u8 x).wf = true) (hl0_1 : l0_1.length ≤ 1048576) (l1 : List Int) (_hw1 : ∀ x ∈ l1, (Lit.int .u8 x).wf = true) (hl1 : l1.length ≤ 1048576) :
    customslaw33_DiskWrite.f l0_0 l0_1 l1 = some true := by
  have hr := read_ok l0_0 l0_1 (by omega)
  have hrr := ref_read_ok l0_0 l0_1 (by omega)
  have hs : disk_Sync.f l0_0 l0_1 = some (l0_0 ++ l0_1, []) := by unfold disk_Sync.f; rw [hr]; rfl
  have hrs : customsref33_Sync.f l0_0 l0_1 = some (l0_0 ++ l0_1, []) := by unfold customsref33_Sync.f; rw [hrr]; rfl
  have hw : ∃ x y z, disk_Write.f l0_0 l0_1 l1 = some (x, y, z) ∧ customsref33_Write.f l0_0 l0_1 l1 = some (x, y, z) := by
    unfold disk_Write.f customsref33_Write.f
    have e1 : wrap64 ((wrap64 ((l0_0.length : Int) + (l0_1.length : Int))) + (l1.length : Int)) = (l0_0.length : Int) + (l0_1.length : Int) + (l1.length : Int) := by unfold wrap64; omega
    have e2 : wrap64 ((l0_0.length : Int) + (l0_1.length : Int)) = (l0_0.length : Int) + (l0_1.length : Int) := by unfold wrap64; omega
    have e3 : wrap64 (1000000 - (l1.length : Int)) = 1000000 - (l1.length : Int) := by unfold wrap64; omega
    rw [e1, e2, e3]
    by_cases hb : (l0_0.length : Int) + (l0_1.length : Int) + (l1.length : Int) > 1000000
    · rw [if_pos hb, if_pos (by omega)]
      exact ⟨_, _, _, rfl, rfl⟩
    · rw [if_neg hb, if_neg (by omega), joined_ok _ _ (by simp; omega), joined_ok _ _ (by omega)]
      simp only [Option.bind_some, List.nil_append, List.length_nil, Nat.zero_add, List.append_nil]
      rw [if_pos (by omega), if_pos (by omega)]
      exact ⟨_, _, _, rfl, rfl⟩
  obtain ⟨x, y, z, h1, h2⟩ := hw
  unfold customslaw33_DiskWrite.f
  rw [h1, h2, hs, hrs, hr, hrr, awake_true]
  simp only [Option.bind_some, same_disk, same_bytes, if_true]
end Go.Proofs.Ythnlepmfjhhgfaa.PureDiskWrite
