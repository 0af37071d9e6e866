/-
  The pure statement of the law DiskFlip: the printed functions answer true.
-/
import Derived.Test.YthnlepmfjhhgfaaPDiskFlipx3
import Derived.KernelRfl
namespace Go.Proofs.Ythnlepmfjhhgfaa.PureDiskFlip
open Go.RowKit Go.Proofs.Ythnlepmfjhhgfaa.PDiskFlip Go.Proofs.YthnlepmfjhhgfaaW.PrintWords Go.Proofs.YthnlepmfjhhgfaaW.PrintLast Go.Proofs.YthnlepmfjhhgfaaW.PrintMore

theorem awake_true : customslaw33_awake.f = some true := by kernel_rfl

theorem joined_ok (a b : List Int) (h : a.length + b.length ≤ 281474976710656) : disk_joined.f a b = some (a ++ b) := by
  unfold disk_joined.f XJoined.joinedF
  rw [if_pos h]

theorem same_bytes (a : List Int) : customsref33_SameBytes.f a a = some true := by
  unfold customsref33_SameBytes.f
  rw [beq_self_eq_true]

theorem same_disk (a b : List Int) : customsref33_SameDisk.f a b a b = some true := by
  unfold customsref33_SameDisk.f
  rw [same_bytes, same_bytes]
  rfl

theorem wrap_small (x : Int) (h1 : -9223372036854775808 ≤ x) (h2 : x < 9223372036854775808) : wrap64 x = x := by unfold wrap64; omega

/-- A byte with one bit turned. -/
def turned (x t : Int) : Int := Go.bits .xor .u8 x (shl .u8 1 (Int.tmod t 8))

theorem turned_all : ((List.range 256).all fun x => (List.range 8).all fun j => (Go.bits .xor .u8 (x : Int) (shl .u8 1 (j : Int)) != (x : Int)) && (Go.bits .xor .u8 (Go.bits .xor .u8 (x : Int) (shl .u8 1 (j : Int))) (shl .u8 1 (j : Int)) == (x : Int))) = true := by kernel_rfl

theorem turned_ok (x t : Int) (hx : (Lit.int .u8 x).wf = true) (ht : 0 ≤ t) : turned x t ≠ x ∧ turned (turned x t) t = x := by
  have hx' : 0 ≤ x ∧ x ≤ 255 := by
    have := hx
    simp only [Lit.wf, Bool.and_eq_true, decide_eq_true_eq] at this
    exact this
  have hj : 0 ≤ Int.tmod t 8 ∧ Int.tmod t 8 < 8 := by rw [Int.tmod_eq_emod_of_nonneg ht]; omega
  have h := List.all_eq_true.1 turned_all x.toNat (List.mem_range.2 (by omega))
  have h2 := List.all_eq_true.1 h (Int.tmod t 8).toNat (List.mem_range.2 (by omega))
  rw [Int.toNat_of_nonneg hx'.1, Int.toNat_of_nonneg hj.1] at h2
  simp only [Bool.and_eq_true, bne_iff_ne, beq_iff_eq] at h2
  exact h2

theorem flip_none (a b : List Int) (t : Int) (ht : (Lit.int .i64 t).wf = true) (ha : a.length = 0) (hb : b.length ≤ 140737488351232) : disk_Flip.f a b t = some (a, b) := by
  have ht' : -9223372036854775808 ≤ t ∧ t ≤ 9223372036854775807 := by
    have := ht
    simp only [Lit.wf, Bool.and_eq_true, decide_eq_true_eq] at this
    exact this
  unfold disk_Flip.f
  rw [joined_ok _ _ (by simp; omega), joined_ok _ _ (by simp; omega)]
  simp only [Option.bind_some, List.append_nil]
  by_cases h : t ≥ 0
  · rw [if_pos h, Int.tdiv_eq_ediv_of_nonneg h, if_neg (by unfold wrap64; omega)]
  · rw [if_neg h]

theorem flip_some (a b : List Int) (t : Int) (ha : a.length ≤ 140737488351232) (hb : b.length ≤ 140737488351232) (h0 : 0 ≤ t) (h1 : t < 8 * a.length) :
    disk_Flip.f a b t = some (a.set (Int.tdiv t 8).toNat (turned (rd a (Int.tdiv t 8)) t), b) := by
  unfold disk_Flip.f
  rw [joined_ok _ _ (by simp; omega), joined_ok _ _ (by simp; omega)]
  simp only [Option.bind_some, List.append_nil]
  have e1 := Int.tdiv_eq_ediv_of_nonneg (b := 8) h0
  have e2 := Int.tmod_eq_emod_of_nonneg (b := 8) h0
  rw [wrap_small _ (by omega) (by omega), if_pos h0, if_pos (by omega), if_pos (by omega), if_pos (by omega)]
  rfl

theorem loop (t : Int) (a b c d : List Int) (hlen : c.length = a.length) (hs : a.length ≤ 140737488351232) (hm : ∀ i : Nat, i < a.length → ((rd c (i : Int) != rd a (i : Int)) != ((i : Int) == wrap64 (Int.tdiv t 8))) = false)
    (he : disk_Flip.f c d t = some (a, b)) : ∀ m i, i + m = a.length → customslaw33_DiskFlip.l0 (m + 1) t (i : Int) a b c d = some true := by
  intro m
  induction m with
  | zero =>
    intro i hi
    unfold customslaw33_DiskFlip.l0
    rw [if_neg (by omega), he]
    simp only [Option.bind_some, same_disk, awake_true, if_true]
  | succ m ih =>
    intro i hi
    unfold customslaw33_DiskFlip.l0
    rw [if_pos (by omega), if_pos (by omega), if_pos (by omega), hm i (by omega), if_neg (by simp), wrap_small _ (by omega) (by omega)]
    exact ih (i + 1) (by omega)

theorem within_ok (a m : Int) (h0 : 0 < m) (h1 : m ≤ 4611686018427387904) : ∃ t, customsmade_Within.f a m = some t ∧ 0 ≤ t ∧ t < m := by
  unfold customsmade_Within.f
  rw [if_neg (by omega)]
  have h2 := Int.tmod_lt_of_pos a h0
  have h3 : -m < Int.tmod a m := by
    have := Int.tmod_lt_of_pos (-a) h0
    rw [Int.neg_tmod] at this
    omega
  rw [wrap_small _ (by omega) (by omega)]
  exact ⟨_, rfl, Int.tmod_nonneg _ (by omega), Int.tmod_lt_of_pos _ h0⟩

theorem rd_set (a : List Int) (k : Nat) (v : Int) (i : Nat) (hk : k < a.length) : rd (a.set k v) (i : Int) = if i = k then v else rd a (i : Int) := by
  unfold rd
  simp only [Int.toNat_natCast, List.getD_eq_getElem?_getD, List.getElem?_set]
  by_cases h : k = i
  · subst h; simp [hk]
  · rw [if_neg h, if_neg (fun e => h e.symm)]

theorem rd_mem (a : List Int) (i : Int) (h : i.toNat < a.length) : rd a i ∈ a := by
  unfold rd
  rw [List.getD_eq_getElem?_getD, List.getElem?_eq_getElem h]
  exact List.getElem_mem h

theorem pure (l0_0 : List Int) (hw0_0 : ∀ x ∈ l0_0, (Lit.int .u8 x).wf = true) (hl0_0 : l0_0.length * 1 ≤ 140737488351232) (l0_1 : List Int) (_hw0_1 : ∀ x ∈ l0_1, (Lit.int .u8 x).wf = true) (hl0_1 : l0_1.length * 1 ≤ 140737488351232) (a1 : Int) (w1 : (Lit.int .i64 a1).wf = true) :
    ∃ k, customslaw33_DiskFlip.f k l0_0 l0_1 a1 = some true := by
  refine ⟨l0_0.length + 1, ?_⟩
  unfold customslaw33_DiskFlip.f
  by_cases h : (l0_0.length : Int) = 0
  · rw [if_pos h, flip_none _ _ _ w1 (by omega) (by omega)]
    simp only [Option.bind_some, same_disk, awake_true, if_true]
  · rw [if_neg h, wrap_small _ (by omega) (by omega)]
    obtain ⟨t, ht, t0, t1⟩ := within_ok a1 (8 * (l0_0.length : Int)) (by omega) (by omega)
    rw [ht]
    simp only [Option.bind_some]
    have e1 := Int.tdiv_eq_ediv_of_nonneg (b := 8) t0
    have hd0 : 0 ≤ Int.tdiv t 8 := by omega
    have hd1 : (Int.tdiv t 8).toNat < l0_0.length := by omega
    have hx := turned_ok _ t (hw0_0 _ (rd_mem l0_0 (Int.tdiv t 8) hd1)) t0
    rw [flip_some _ _ _ (by omega) (by omega) t0 t1]
    simp only [Option.bind_some, List.length_set, if_true]
    refine loop t l0_0 l0_1 _ l0_1 (by simp) (by omega) ?_ ?_ l0_0.length 0 (by omega)
    · intro i hi
      rw [rd_set _ _ _ _ hd1, wrap_small _ (by omega) (by omega)]
      by_cases e : i = (Int.tdiv t 8).toNat
      · rw [if_pos e]
        have e2 : (i : Int) = Int.tdiv t 8 := by omega
        rw [e2]
        simp [hx.1]
      · rw [if_neg e]
        have e2 : ¬ (i : Int) = Int.tdiv t 8 := by omega
        simp [e2]
    · rw [flip_some _ _ _ (by simp; omega) (by omega) t0 (by simp; omega)]
      have e3 : rd (l0_0.set (Int.tdiv t 8).toNat (turned (rd l0_0 (Int.tdiv t 8)) t)) (Int.tdiv t 8) = turned (rd l0_0 (Int.tdiv t 8)) t := by
        have := rd_set l0_0 (Int.tdiv t 8).toNat (turned (rd l0_0 (Int.tdiv t 8)) t) (Int.tdiv t 8).toNat hd1
        rw [Int.toNat_of_nonneg hd0] at this
        rw [this, if_pos rfl]
      rw [e3, hx.2, List.set_set]
      have e4 : l0_0.set (Int.tdiv t 8).toNat (rd l0_0 (Int.tdiv t 8)) = l0_0 := by
        unfold rd
        rw [List.getD_eq_getElem?_getD, List.getElem?_eq_getElem hd1]
        exact List.set_getElem_self hd1
      rw [e4]
end Go.Proofs.Ythnlepmfjhhgfaa.PureDiskFlip
