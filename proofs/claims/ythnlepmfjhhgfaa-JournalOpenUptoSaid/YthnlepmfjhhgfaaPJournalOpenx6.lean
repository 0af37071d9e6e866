-- Printed by a patched copy of the kit's printer (wip/prt); nothing here is trusted, Lean checks it.
import Derived.Test.YthnlepmfjhhgfaaPJournalOpenx0
import Derived.Test.YthnlepmfjhhgfaaPJournalOpenx1
import Derived.Test.YthnlepmfjhhgfaaPJournalOpenx5
namespace Go.Proofs.Ythnlepmfjhhgfaa.PJournalOpen
open Go.RowKit Go.Proofs.YthnlepmfjhhgfaaW.PrintWords Go.Proofs.YthnlepmfjhhgfaaW.PrintLast Go.Proofs.YthnlepmfjhhgfaaW.PrintMore
attribute [local go_sem] max2_int min2_int max_two min_two max_three min_three max_four min_four   -- for this text's walks alone
set_option linter.unusedVariables false
set_option linter.unusedSimpArgs false

/-! ### customsref33_Scan: function 31 -/
mutual
def customsref33_Scan.l0 : Nat → List Int → List (S43) → Int → Option ((List (S43)) × Int)
  | 0, _, _, _ => none
  | k + 1, x0, x4, x5 => if (wrap64 (x5 + 9)) ≤ (x0.length : Int) then (if 0 ≤ x5 then (if x5 < (x0.length : Int) then (if 0 ≤ (wrap64 (x5 + 1)) then (if (wrap64 (x5 + 1)) < (x0.length : Int) then (if (wrap64 ((wrap64 ((wrap64 (rd x0 x5)) * 256)) + (wrap64 (rd x0 (wrap64 (x5 + 1)))))) > 60000 then (customsref33_Scan.j1 k x0 x4 x5 (wrap64 ((wrap64 ((wrap64 (rd x0 x5)) * 256)) + (wrap64 (rd x0 (wrap64 (x5 + 1)))))) true) else (customsref33_Scan.j1 k x0 x4 x5 (wrap64 ((wrap64 ((wrap64 (rd x0 x5)) * 256)) + (wrap64 (rd x0 (wrap64 (x5 + 1)))))) (decide ((wrap64 ((wrap64 (x5 + 9)) + (wrap64 ((wrap64 ((wrap64 (rd x0 x5)) * 256)) + (wrap64 (rd x0 (wrap64 (x5 + 1)))))))) > (x0.length : Int))))) else (none)) else (none)) else (none)) else (none)) else (some (x4, x5))
def customsref33_Scan.j1 : Nat → List Int → List (S43) → Int → Int → Bool → Option ((List (S43)) × Int)
  | 0, _, _, _, _, _ => none
  | k + 1, x0, x4, x5, x6, x38 => if x38 = true then (some (x4, x5)) else (if 0 ≤ (wrap64 (x5 + 4)) then (if (wrap64 (x5 + 4)) < (x0.length : Int) then ((some (([] : List Int) : List Int)).bind fun y370 => (if 0 ≤ (wrap64 (x5 + 5)) then (if (wrap64 (x5 + 5)) ≤ (wrap64 ((wrap64 (x5 + 5)) + x6)) then (if (wrap64 ((wrap64 (x5 + 5)) + x6)) ≤ (x0.length : Int) then ((some ((x0.take ((wrap64 ((wrap64 (x5 + 5)) + x6)) : Int).toNat).drop ((wrap64 (x5 + 5)) : Int).toNat : List Int)).bind fun y373 => (if y370.length + y373.length < 140737488355328 then ((some (y370 ++ y373 : List Int)).bind fun y377 => ((customsref33_Encode.f k (wrap64 (rd x0 (wrap64 (x5 + 4)))) y377).bind fun bt381 => (if bt381.2 = 0 then (if 0 ≤ x5 then (if x5 ≤ (wrap64 ((wrap64 (x5 + 9)) + x6)) then (if (wrap64 ((wrap64 (x5 + 9)) + x6)) ≤ (x0.length : Int) then ((customsref33_SameBytes.f bt381.1 ((x0.take ((wrap64 ((wrap64 (x5 + 9)) + x6)) : Int).toNat).drop (x5 : Int).toNat)).bind fun t389 => (if t389 = true then (if x4.length < 4398046511104 then (customsref33_Scan.l0 k x0 (x4 ++ [(⟨wrap64 (rd x0 (wrap64 (x5 + 4))), y377⟩ : S43)]) (wrap64 ((wrap64 (x5 + 9)) + x6))) else (none)) else (some (x4, x5)))) else (none)) else (none)) else (none)) else (some (x4, x5))))) else (none))) else (none)) else (none)) else (none))) else (none)) else (none))
end
def customsref33_Scan.f (k : Nat) (l0 : List Int) : Option ((List (S43)) × Int) := customsref33_Scan.l0 k l0 ([] : List (S43)) 0
theorem customsref33_Scan.mono_l : ∀ k, (∀ y0 y1 y2, LeO (customsref33_Scan.l0 k y0 y1 y2) (customsref33_Scan.l0 (k + 1) y0 y1 y2)) ∧ (∀ y0 y1 y2 y3 y4, LeO (customsref33_Scan.j1 k y0 y1 y2 y3 y4) (customsref33_Scan.j1 (k + 1) y0 y1 y2 y3 y4))
  | 0 => ⟨fun _ _ _ r h => by simp [customsref33_Scan.l0] at h, fun _ _ _ _ _ r h => by simp [customsref33_Scan.j1] at h⟩
  | k + 1 => by
    obtain ⟨ih0, ih1⟩ := customsref33_Scan.mono_l k
    refine ⟨?_, ?_⟩
    · intro y0 y1 y2
      unfold customsref33_Scan.l0
      repeat' first
      | (with_reducible exact ih0 _ _ _)
      | (with_reducible exact ih1 _ _ _ _ _)
      | (with_reducible exact customsref33_Encode.mono _ _ _)
      | (with_reducible exact LeO.refl _)
      | (with_reducible exact LeO.none _)
      | (with_reducible refine LeO.ite ?_ ?_)
      | (with_reducible refine LeO.bind ?_ (fun _ => ?_))
      | exact ih0 _ _ _
      | exact ih1 _ _ _ _ _
      | exact customsref33_Encode.mono _ _ _
      | exact LeO.none _
      | refine LeO.ite ?_ ?_
      | refine LeO.bind ?_ (fun _ => ?_)
    · intro y0 y1 y2 y3 y4
      unfold customsref33_Scan.j1
      repeat' first
      | (with_reducible exact ih0 _ _ _)
      | (with_reducible exact ih1 _ _ _ _ _)
      | (with_reducible exact customsref33_Encode.mono _ _ _)
      | (with_reducible exact LeO.refl _)
      | (with_reducible exact LeO.none _)
      | (with_reducible refine LeO.ite ?_ ?_)
      | (with_reducible refine LeO.bind ?_ (fun _ => ?_))
      | exact ih0 _ _ _
      | exact ih1 _ _ _ _ _
      | exact customsref33_Encode.mono _ _ _
      | exact LeO.none _
      | refine LeO.ite ?_ ?_
      | refine LeO.bind ?_ (fun _ => ?_)
theorem customsref33_Scan.mono : ∀ a0 k, LeO (customsref33_Scan.f k a0) (customsref33_Scan.f (k + 1) a0) := by
  intro a0 k
  obtain ⟨ih0, ih1⟩ := customsref33_Scan.mono_l k
  unfold customsref33_Scan.f
  repeat' first
      | (with_reducible exact ih0 _ _ _)
      | (with_reducible exact ih1 _ _ _ _ _)
      | (with_reducible exact customsref33_Encode.mono _ _ _)
      | (with_reducible exact LeO.refl _)
      | (with_reducible exact LeO.none _)
      | (with_reducible refine LeO.ite ?_ ?_)
      | (with_reducible refine LeO.bind ?_ (fun _ => ?_))
      | exact ih0 _ _ _
      | exact ih1 _ _ _ _ _
      | exact customsref33_Encode.mono _ _ _
      | exact LeO.none _
      | refine LeO.ite ?_ ?_
      | refine LeO.bind ?_ (fun _ => ?_)
def customsref33_Scan.T4 : Bool × List (List Nat × List Nat) := (true, [([], []), ([], []), ([0, 1], [0, 1]), ([2], [2]), ([3], [3]), ([4], [4]), ([], []), ([], []), ([7], [7]), ([6, 8], [6, 8]), ([9], [9]), ([10], [10]), ([5, 11], [5, 11]), ([12, 0, 1, 2, 3, 4, 5, 6, 7, 8, 9, 10, 11, 12], [12])])
def customsref33_Scan.B4 : List Nat := [0, 0, 3, 7, 15, 31, 0, 0, 128, 448, 960, 1984, 4095, 8191]
theorem customsref33_Scan.tab4 : rtab .any (opsOf Try.f31 4) = customsref33_Scan.T4 := by kernel_rfl
theorem customsref33_Scan.bits4 : waitsOk customsref33_Scan.T4.2 customsref33_Scan.B4 = true := by kernel_rfl
def customsref33_Scan.T6 : Bool × List (List Nat × List Nat) := (true, [([], []), ([], []), ([1], [1]), ([0, 2], [0, 2]), ([3], [3]), ([4], [4]), ([], []), ([], []), ([], []), ([8], [8]), ([], []), ([10], [10]), ([], []), ([11, 12], [11, 12]), ([7, 9, 13], [7, 9, 13]), ([6, 14], [6, 14]), ([5, 15], [5, 15]), ([], []), ([17, 16, 15, 0, 1, 2, 3, 4, 5, 6, 7, 8, 9, 10, 11, 12, 13, 14, 15, 16, 17], [16, 17])])
def customsref33_Scan.B6 : List Nat := [0, 0, 2, 7, 15, 31, 0, 0, 0, 256, 0, 1024, 0, 7168, 16256, 32704, 65535, 0, 262143]
theorem customsref33_Scan.tab6 : rtab .any (opsOf Try.f31 6) = customsref33_Scan.T6 := by kernel_rfl
theorem customsref33_Scan.bits6 : waitsOk customsref33_Scan.T6.2 customsref33_Scan.B6 = true := by kernel_rfl
set_option maxHeartbeats 8000000 in
set_option maxRecDepth 100000 in
theorem customsref33_Scan.calls (k : Nat) (A0 : Option Addr) (c0 : Nat) (l0 : List Int) (r1 : List (S43)) (r2 : Int) (w : World) (hr0 : Kd.C (Kd.int .u8) w A0 l0.length l0) (hc0 : l0.length ≤ c0) (h : customsref33_Scan.f k l0 = some (r1, r2)) :
    Calls Try.prog 31 #[.slice A0 l0.length c0] w fun e w' => ∃ v0_ : Value, e = .returned (.tuple #[v0_, .int .i64 r2]) ∧ Kd.S k43 43 w' w.heap.size (fun _ => True) v0_ r1 ∧ Below w.heap.size w w' := by
  have hu43 := Try.underlying43
  have HR0 := Aside0.mk hr0
  have HC0 := Aside0.mk hc0
  clear hr0 hc0
  have HB := Aside0.mk (Below.refl w.heap.size w)
  have H : (customsref33_Scan.l0 k l0 ([] : List (S43)) 0) = some (r1, r2) := h
  clear h
  have H' := Aside0.mk H
  clear H
  go_enter Try.func31, Try.ntmps31
  go_wp2
  go_loopg [4, 5] k (fun kq v4 v5 w' => ∃ (x4_1 : List (S43)) (x5_1 : Int), v5 = .int .i64 x5_1 ∧ Aside0 (customsref33_Scan.l0 kq l0 x4_1 x5_1 = some (r1, r2)) ∧ Aside0 (kq ≤ k) ∧ Aside0 (Kd.S k43 43 w' w.heap.size (fun _ => True) v4 x4_1) ∧ Aside0 (Below w.heap.size w w'))
  case atStart => exact ⟨(([] : List (S43))), (0), (by first | rfl | (simp; done) | (simp [*]; done)), H', ⟨Nat.le_refl _⟩, ⟨by first | exact Kd.S_nil _ _ _ _ _ | exact Kd.N_nil _ _ _ _ _ | exact Kd.V_nil _ _ _ _ _ | exact Kd.Q_nil _ _ _ _ _ | exact Kd.R_nil _ _ _ _ _⟩, ⟨by exact pB HB.out⟩⟩
  case round =>
    clear H'
    obtain ⟨x4_1, x5_1, rfl, HA, HK1, HO_4, HB⟩ := hrel
    cases gk with
    | zero => exact absurd HA.out (by simp [customsref33_Scan.l0])
    | succ k1 =>
      have H := HA.out
      clear HA
      simp only [customsref33_Scan.l0] at H
      by_cases c2 : (wrap64 (x5_1 + 9)) ≤ (l0.length : Int)
      · rw [if_pos c2] at H
        have c2b0 : decide ((wrap64 (x5_1 + 9)) ≤ (l0.length : Int)) = true := decide_eq_true c2
        clear c2
        have c3 : 0 ≤ x5_1 := by
          refine Classical.byContradiction fun c3 => ?_
          rw [if_neg c3] at H
          exact absurd H (by simp)
        rw [if_pos c3] at H
        have c3b0 : decide (0 ≤ x5_1) = true := decide_eq_true c3
        clear c3
        have c4 : x5_1 < (l0.length : Int) := by
          refine Classical.byContradiction fun c4 => ?_
          rw [if_neg c4] at H
          exact absurd H (by simp)
        rw [if_pos c4] at H
        have c4b0 : decide (x5_1 < (l0.length : Int)) = true := decide_eq_true c4
        clear c4
        obtain ⟨ji5, hji5⟩ : ∃ j_ : Int, (wrap64 (x5_1 + 1)) = j_ := ⟨_, rfl⟩
        replace H : (if 0 ≤ (ji5) then (if (ji5) < (l0.length : Int) then (if (wrap64 ((wrap64 ((wrap64 (rd l0 x5_1)) * 256)) + (wrap64 (rd l0 (ji5))))) > 60000 then (customsref33_Scan.j1 k1 l0 x4_1 x5_1 (wrap64 ((wrap64 ((wrap64 (rd l0 x5_1)) * 256)) + (wrap64 (rd l0 (ji5))))) true) else (customsref33_Scan.j1 k1 l0 x4_1 x5_1 (wrap64 ((wrap64 ((wrap64 (rd l0 x5_1)) * 256)) + (wrap64 (rd l0 (ji5))))) (decide ((wrap64 ((wrap64 (x5_1 + 9)) + (wrap64 ((wrap64 ((wrap64 (rd l0 x5_1)) * 256)) + (wrap64 (rd l0 (ji5))))))) > (l0.length : Int))))) else (none)) else (none)) = some (r1, r2) := by first | (rw [hji5] at H; exact H) | (simp only [hji5] at H ⊢; exact H)
        have hji5w : (IntKind.i64.wrap (x5_1 + 1)) = ji5 := (i64_w _).trans hji5
        have c6 : 0 ≤ (ji5) := by
          refine Classical.byContradiction fun c6 => ?_
          rw [if_neg c6] at H
          exact absurd H (by simp)
        rw [if_pos c6] at H
        have c6b0 : decide (0 ≤ (ji5)) = true := decide_eq_true c6
        clear c6
        have c7 : (ji5) < (l0.length : Int) := by
          refine Classical.byContradiction fun c7 => ?_
          rw [if_neg c7] at H
          exact absurd H (by simp)
        rw [if_pos c7] at H
        have c7b0 : decide ((ji5) < (l0.length : Int)) = true := decide_eq_true c7
        clear c7
        have HC8 := Aside0.mk H
        clear H
        try go_wp2
        have n0_ := Aside0.mk (Kd.S_drew HO_4.out)
        have n1_ := Aside0.mk (below_drew1 HB.out)
        clear HO_4
        clear HB
        have HO_4 := n0_
        have HB := n1_
        clear n0_ n1_
        have p367 : 0 ≤ (x5_1 : Int) := of_decide_eq_true (by first | (with_reducible assumption) | assumption)
        have q367 : x5_1 < (l0.length : Int) := of_decide_eq_true (by first | (with_reducible assumption) | assumption)
        obtain ⟨ad367, e367, hx367_0⟩ := Kd.at_int HR0.out x5_1 p367 q367
        have hw367_0 := hx367_0
        cases e367
        replace hx367_0 := (HB.out.cell (World.block_lt_of_cell? w _ hx367_0)).trans hx367_0
        replace p367 := eq_true p367
        replace q367 := eq_true q367
        have p368 : 0 ≤ ((ji5) : Int) := of_decide_eq_true (by first | (with_reducible assumption) | assumption)
        have q368 : (ji5) < (l0.length : Int) := of_decide_eq_true (by first | (with_reducible assumption) | assumption)
        obtain ⟨ad368, e368, hx368_0⟩ := Kd.at_int HR0.out (ji5) p368 q368
        have hw368_0 := hx368_0
        obtain rfl : ad367 = ad368 := (by injection e368)
        replace hx368_0 := (HB.out.cell (World.block_lt_of_cell? w _ hx368_0)).trans hx368_0
        replace p368 := eq_true p368
        replace q368 := eq_true q368
        refine start_ (n := 14) (S := fun w' => w'.cell? (ad367.add (x5_1).toNat) = some (.int .u8 (rd l0 x5_1)) ∧ w'.cell? (ad367.add ((ji5)).toNat) = some (.int .u8 (rd l0 (ji5)))) (ds := []) #[false, false, false, false, false, false, false, false, false, false, false, false, false, false] (by kernel_rfl) rfl rfl ⟨((HB.out.cell (World.block_lt_of_cell? w _ hw367_0)).trans hw367_0), ((HB.out.cell (World.block_lt_of_cell? w _ hw368_0)).trans hw368_0)⟩ (fun hHeld => ?_); refine with_tabW customsref33_Scan.tab4 customsref33_Scan.bits4 (fun HT_ HW_ => ?_)
        generalize wr.drew = w9 at HO_4 HB hx367_0 hx368_0 hHeld ⊢
        refine pure_ (i := 0) (N := some 15) (v := ?_) (a' := ?_) #[true, false, false, false, false, false, false, false, false, false, false, false, false, false] rfl rfl (any_of HT_.out (by kernel_rfl)) (fun _ _ _ h => h) (Or.inl ⟨by rfl, ?_⟩) ?_ ?_
        rotate_left
        · intro w'
          go_simp
          with_reducible rfl
        rotate_left
        · simp only [Act.put, List.setIfInBounds_toArray, List.set_cons_zero, List.set_cons_succ, i64_w, i32_w]
          rfl
        refine pure_ (i := 1) (N := some 16) (v := ?_) (a' := ?_) #[true, true, false, false, false, false, false, false, false, false, false, false, false, false] rfl rfl (any_of HT_.out (by kernel_rfl)) (fun _ _ _ h => h) (Or.inl ⟨by rfl, ?_⟩) ?_ ?_
        rotate_left
        · intro w'
          go_simp
          with_reducible rfl
        rotate_left
        · simp only [Act.put, List.setIfInBounds_toArray, List.set_cons_zero, List.set_cons_succ, i64_w, i32_w]
          rfl
        refine pure_ (i := 2) (N := some 17) (v := ?_) (a' := ?_) #[true, true, true, false, false, false, false, false, false, false, false, false, false, false] rfl rfl (any_of HT_.out (by kernel_rfl)) (fun _ _ _ h => h) (Or.inl ⟨by rfl, ?_⟩) ?_ ?_
        rotate_left
        · intro w'
          go_simp
          with_reducible rfl
        rotate_left
        · simp only [Act.put, List.setIfInBounds_toArray, List.set_cons_zero, List.set_cons_succ, i64_w, i32_w]
          rfl
        refine pure_ (i := 6) (N := some 21) (v := ?_) (a' := ?_) #[true, true, true, false, false, false, true, false, false, false, false, false, false, false] rfl rfl (any_of HT_.out (by kernel_rfl)) (fun _ _ _ h => h) (Or.inl ⟨by rfl, ?_⟩) ?_ ?_
        rotate_left
        · intro w'
          go_simp
          with_reducible rfl
        rotate_left
        · simp only [Act.put, List.setIfInBounds_toArray, List.set_cons_zero, List.set_cons_succ, i64_w, i32_w]
          rfl
        refine pure_ (i := 7) (N := some 22) (v := ?_) (a' := ?_) #[true, true, true, false, false, false, true, true, false, false, false, false, false, false] rfl rfl (any_of HT_.out (by kernel_rfl)) (fun _ _ _ h => h) (Or.inl ⟨by rfl, ?_⟩) ?_ ?_
        rotate_left
        · intro w'
          go_simp
          with_reducible rfl
        rotate_left
        · simp only [Act.put, List.setIfInBounds_toArray, List.set_cons_zero, List.set_cons_succ, i64_w, i32_w]
          rfl
        refine pure_ (i := 8) (N := some 23) (v := ?_) (a' := ?_) #[true, true, true, false, false, false, true, true, true, false, false, false, false, false] rfl rfl (any_of HT_.out (by kernel_rfl)) (fun _ _ _ h => h) (Or.inl ⟨by rfl, ?_⟩) ?_ ?_
        rotate_left
        · intro w'
          go_simp
          with_reducible rfl
        rotate_left
        · simp only [Act.put, List.setIfInBounds_toArray, List.set_cons_zero, List.set_cons_succ, i64_w, i32_w]
          rfl
        refine pure_ (i := 9) (N := some 24) (v := ?_) (a' := ?_) #[true, true, true, false, false, false, true, true, true, true, false, false, false, false] rfl rfl (any_of HT_.out (by kernel_rfl)) (fun _ _ _ h => h) (Or.inl ⟨by rfl, ?_⟩) ?_ ?_
        rotate_left
        · intro w'
          go_simp
          with_reducible rfl
        rotate_left
        · simp only [Act.put, List.setIfInBounds_toArray, List.set_cons_zero, List.set_cons_succ, i64_w, i32_w]
          rfl
        refine take_ (i := 3) (N := some 18) (v := ?_) (a' := ?_) #[true, true, true, true, false, false, true, true, true, true, false, false, false, false] rfl rfl (take_ofW HT_.out HW_.out (by kernel_rfl)) (fun _ _ _ h => h) (Or.inl ⟨by rfl, ?_⟩) hHeld ?_ ?_
        rotate_left
        · rintro w' ⟨s0, s1⟩
          go_simp
          with_reducible rfl
        rotate_left
        · simp only [Act.put, List.setIfInBounds_toArray, List.set_cons_zero, List.set_cons_succ, i64_w, i32_w]
          rfl
        refine pure_ (i := 4) (N := some 19) (v := ?_) (a' := ?_) #[true, true, true, true, true, false, true, true, true, true, false, false, false, false] rfl rfl (any_of HT_.out (by kernel_rfl)) (fun _ _ _ h => h) (Or.inl ⟨by rfl, ?_⟩) ?_ ?_
        rotate_left
        · intro w'
          go_simp
          with_reducible rfl
        rotate_left
        · simp only [Act.put, List.setIfInBounds_toArray, List.set_cons_zero, List.set_cons_succ, i64_w, i32_w]
          rfl
        refine pure_ (i := 5) (N := some 20) (v := ?_) (a' := ?_) #[true, true, true, true, true, true, true, true, true, true, false, false, false, false] rfl rfl (any_of HT_.out (by kernel_rfl)) (fun _ _ _ h => h) (Or.inl ⟨by rfl, ?_⟩) ?_ ?_
        rotate_left
        · intro w'
          go_simp
          with_reducible rfl
        rotate_left
        · simp only [Act.put, List.setIfInBounds_toArray, List.set_cons_zero, List.set_cons_succ, i64_w, i32_w]
          rfl
        refine take_ (i := 10) (N := some 25) (v := ?_) (a' := ?_) #[true, true, true, true, true, true, true, true, true, true, true, false, false, false] rfl rfl (take_ofW HT_.out HW_.out (by kernel_rfl)) (fun _ _ _ h => h) (Or.inl ⟨by rfl, ?_⟩) hHeld ?_ ?_
        rotate_left
        · rintro w' ⟨s0, s1⟩
          go_simp
          with_reducible rfl
        rotate_left
        · simp only [Act.put, List.setIfInBounds_toArray, List.set_cons_zero, List.set_cons_succ, i64_w, i32_w]
          rfl
        refine pure_ (i := 11) (N := some 26) (v := ?_) (a' := ?_) #[true, true, true, true, true, true, true, true, true, true, true, true, false, false] rfl rfl (any_of HT_.out (by kernel_rfl)) (fun _ _ _ h => h) (Or.inl ⟨by rfl, ?_⟩) ?_ ?_
        rotate_left
        · intro w'
          go_simp
          with_reducible rfl
        rotate_left
        · simp only [Act.put, List.setIfInBounds_toArray, List.set_cons_zero, List.set_cons_succ, i64_w, i32_w]
          rfl
        refine pure_ (i := 12) (N := some 27) (v := ?_) (a' := ?_) #[true, true, true, true, true, true, true, true, true, true, true, true, true, false] rfl rfl (any_of HT_.out (by kernel_rfl)) (fun _ _ _ h => h) (Or.inl ⟨by rfl, ?_⟩) ?_ ?_
        rotate_left
        · intro w'
          go_simp
          with_reducible rfl
        rotate_left
        · simp only [Act.put, List.setIfInBounds_toArray, List.set_cons_zero, List.set_cons_succ, i64_w, i32_w]
          rfl
        refine pure_ (i := 13) (N := some 6) (v := ?_) (a' := ?_) #[true, true, true, true, true, true, true, true, true, true, true, true, true, true] rfl rfl (any_of HT_.out (by kernel_rfl)) (fun _ _ _ h => h) (Or.inl ⟨by rfl, ?_⟩) ?_ ?_
        rotate_left
        · intro w'
          go_simp
          with_reducible rfl
        rotate_left
        · simp only [Act.put, List.setIfInBounds_toArray, List.set_cons_zero, List.set_cons_succ, i64_w, i32_w]
          rfl
        refine done_ (done_of HT_.out (by kernel_rfl)) ?_
        go_upto_region 5 with (fail)
        go_cut [38] (fun v38 wc => ∃ (kq : Nat) (x38_7 : Bool), v38 = .bool x38_7 ∧ Aside0 (customsref33_Scan.j1 kq l0 x4_1 x5_1 (wrap64 ((wrap64 ((wrap64 (rd l0 x5_1)) * 256)) + (wrap64 (rd l0 (ji5))))) x38_7 = some (r1, r2)) ∧ Aside0 (kq ≤ k1) ∧ Aside0 (Kd.S k43 43 wc w.heap.size (fun _ => True) u4 x4_1) ∧ Aside0 (Below w.heap.size w wc))
        case first =>
          have H := HC8.out
          clear HC8
          by_cases c10 : (wrap64 ((wrap64 ((wrap64 (rd l0 x5_1)) * 256)) + (wrap64 (rd l0 (ji5))))) > 60000
          · rw [if_pos c10] at H
            have c10b0 : decide (60000 < (wrap64 ((wrap64 ((wrap64 (rd l0 x5_1)) * 256)) + (wrap64 (rd l0 (ji5)))))) = true := decide_eq_true c10
            clear c10
            (first | rw [c10b0] | (simp only [i64_w, i32_w]; rw [c10b0]) | skip)
            have H' := Aside0.mk H
            clear H
            go_wp2
            go_meet
            case rel => exact ⟨_, (true), (by first | rfl | (simp; done) | (simp [*]; done)), H', ⟨by have := HK1.out; first | omega | exact Nat.le_refl _⟩, ⟨by exact pS HO_4.out⟩, ⟨by exact pB HB.out⟩⟩
          · rw [if_neg c10] at H
            have c10b0 : decide (60000 < (wrap64 ((wrap64 ((wrap64 (rd l0 x5_1)) * 256)) + (wrap64 (rd l0 (ji5)))))) = false := decide_eq_false c10
            clear c10
            (first | rw [c10b0] | (simp only [i64_w, i32_w]; rw [c10b0]) | skip)
            have H' := Aside0.mk H
            clear H
            go_wp2
            go_meet
            case rel => exact ⟨_, (decide ((wrap64 ((wrap64 (x5_1 + 9)) + (wrap64 ((wrap64 ((wrap64 (rd l0 x5_1)) * 256)) + (wrap64 (rd l0 (ji5))))))) > (l0.length : Int))), (by first | rfl | (simp; done) | (simp only [← hji5] <;> (first | rfl | simp)) | (simp [*]; done)), H', ⟨by have := HK1.out; first | omega | exact Nat.le_refl _⟩, ⟨by exact pS HO_4.out⟩, ⟨by exact pB HB.out⟩⟩
        case rest =>
          clear HC8
          try clear c1
          try clear c2
          try clear c2b0
          try clear p2
          try clear c3
          try clear c3b0
          try clear p3
          try clear q3
          try clear hx3
          try clear c4
          try clear c4b0
          try clear c6
          try clear c6b0
          try clear p6
          try clear c7
          try clear c7b0
          try clear c10
          try clear c10b0
          try clear hx367_0
          try clear hx368_0
          try clear p367
          try clear p368
          try clear q367
          try clear q368
          obtain ⟨kq, x38_7, rfl, HA, HJ7, HO_4, HB⟩ := hcut
          cases kq with
          | zero => exact absurd HA.out (by simp [customsref33_Scan.j1])
          | succ kj7 =>
            have H := HA.out
            clear HA
            simp only [customsref33_Scan.j1] at H
            by_cases c11 : x38_7 = true
            · subst c11
              have H1 : (some (x4_1, x5_1)) = some (r1, r2) := by rw [if_pos rfl] at H; exact H
              clear H
              have H := H1
              clear H1
              simp only [Option.some.injEq, Prod.mk.injEq] at H
              obtain ⟨rfl, rfl⟩ := H
              go_wp2
              go_ret2
              exact ⟨_, by first | rfl | (simp [errW_none, errW_some] <;> rfl) | (simp only [← hji5]; first | rfl | (simp [errW_none, errW_some] <;> rfl)) | (simp [*, errW_none, errW_some] <;> rfl), by exact pS HO_4.out, by exact pB HB.out⟩
            · replace c11 := Bool.eq_false_iff.mpr c11
              subst c11
              have H1 : (if 0 ≤ (wrap64 (x5_1 + 4)) then (if (wrap64 (x5_1 + 4)) < (l0.length : Int) then ((some (([] : List Int) : List Int)).bind fun y370 => (if 0 ≤ (wrap64 (x5_1 + 5)) then (if (wrap64 (x5_1 + 5)) ≤ (wrap64 ((wrap64 (x5_1 + 5)) + (wrap64 ((wrap64 ((wrap64 (rd l0 x5_1)) * 256)) + (wrap64 (rd l0 (ji5))))))) then (if (wrap64 ((wrap64 (x5_1 + 5)) + (wrap64 ((wrap64 ((wrap64 (rd l0 x5_1)) * 256)) + (wrap64 (rd l0 (ji5))))))) ≤ (l0.length : Int) then ((some ((l0.take ((wrap64 ((wrap64 (x5_1 + 5)) + (wrap64 ((wrap64 ((wrap64 (rd l0 x5_1)) * 256)) + (wrap64 (rd l0 (ji5))))))) : Int).toNat).drop ((wrap64 (x5_1 + 5)) : Int).toNat : List Int)).bind fun y373 => (if y370.length + y373.length < 140737488355328 then ((some (y370 ++ y373 : List Int)).bind fun y377 => ((customsref33_Encode.f kj7 (wrap64 (rd l0 (wrap64 (x5_1 + 4)))) y377).bind fun bt381 => (if bt381.2 = 0 then (if 0 ≤ x5_1 then (if x5_1 ≤ (wrap64 ((wrap64 (x5_1 + 9)) + (wrap64 ((wrap64 ((wrap64 (rd l0 x5_1)) * 256)) + (wrap64 (rd l0 (ji5))))))) then (if (wrap64 ((wrap64 (x5_1 + 9)) + (wrap64 ((wrap64 ((wrap64 (rd l0 x5_1)) * 256)) + (wrap64 (rd l0 (ji5))))))) ≤ (l0.length : Int) then ((customsref33_SameBytes.f bt381.1 ((l0.take ((wrap64 ((wrap64 (x5_1 + 9)) + (wrap64 ((wrap64 ((wrap64 (rd l0 x5_1)) * 256)) + (wrap64 (rd l0 (ji5))))))) : Int).toNat).drop (x5_1 : Int).toNat)).bind fun t389 => (if t389 = true then (if x4_1.length < 4398046511104 then (customsref33_Scan.l0 kj7 l0 (x4_1 ++ [(⟨wrap64 (rd l0 (wrap64 (x5_1 + 4))), y377⟩ : S43)]) (wrap64 ((wrap64 (x5_1 + 9)) + (wrap64 ((wrap64 ((wrap64 (rd l0 x5_1)) * 256)) + (wrap64 (rd l0 (ji5)))))))) else (none)) else (some (x4_1, x5_1)))) else (none)) else (none)) else (none)) else (some (x4_1, x5_1))))) else (none))) else (none)) else (none)) else (none))) else (none)) else (none)) = some (r1, r2) := by rw [if_neg (show ¬ (false = true) by decide)] at H; exact H
              clear H
              have H := H1
              clear H1
              obtain ⟨ji12, hji12⟩ : ∃ j_ : Int, (wrap64 (x5_1 + 4)) = j_ := ⟨_, rfl⟩
              replace H : (if 0 ≤ (ji12) then (if (ji12) < (l0.length : Int) then ((some (([] : List Int) : List Int)).bind fun y370 => (if 0 ≤ (wrap64 (x5_1 + 5)) then (if (wrap64 (x5_1 + 5)) ≤ (wrap64 ((wrap64 (x5_1 + 5)) + (wrap64 ((wrap64 ((wrap64 (rd l0 x5_1)) * 256)) + (wrap64 (rd l0 (ji5))))))) then (if (wrap64 ((wrap64 (x5_1 + 5)) + (wrap64 ((wrap64 ((wrap64 (rd l0 x5_1)) * 256)) + (wrap64 (rd l0 (ji5))))))) ≤ (l0.length : Int) then ((some ((l0.take ((wrap64 ((wrap64 (x5_1 + 5)) + (wrap64 ((wrap64 ((wrap64 (rd l0 x5_1)) * 256)) + (wrap64 (rd l0 (ji5))))))) : Int).toNat).drop ((wrap64 (x5_1 + 5)) : Int).toNat : List Int)).bind fun y373 => (if y370.length + y373.length < 140737488355328 then ((some (y370 ++ y373 : List Int)).bind fun y377 => ((customsref33_Encode.f kj7 (wrap64 (rd l0 (ji12))) y377).bind fun bt381 => (if bt381.2 = 0 then (if 0 ≤ x5_1 then (if x5_1 ≤ (wrap64 ((wrap64 (x5_1 + 9)) + (wrap64 ((wrap64 ((wrap64 (rd l0 x5_1)) * 256)) + (wrap64 (rd l0 (ji5))))))) then (if (wrap64 ((wrap64 (x5_1 + 9)) + (wrap64 ((wrap64 ((wrap64 (rd l0 x5_1)) * 256)) + (wrap64 (rd l0 (ji5))))))) ≤ (l0.length : Int) then ((customsref33_SameBytes.f bt381.1 ((l0.take ((wrap64 ((wrap64 (x5_1 + 9)) + (wrap64 ((wrap64 ((wrap64 (rd l0 x5_1)) * 256)) + (wrap64 (rd l0 (ji5))))))) : Int).toNat).drop (x5_1 : Int).toNat)).bind fun t389 => (if t389 = true then (if x4_1.length < 4398046511104 then (customsref33_Scan.l0 kj7 l0 (x4_1 ++ [(⟨wrap64 (rd l0 (ji12)), y377⟩ : S43)]) (wrap64 ((wrap64 (x5_1 + 9)) + (wrap64 ((wrap64 ((wrap64 (rd l0 x5_1)) * 256)) + (wrap64 (rd l0 (ji5)))))))) else (none)) else (some (x4_1, x5_1)))) else (none)) else (none)) else (none)) else (some (x4_1, x5_1))))) else (none))) else (none)) else (none)) else (none))) else (none)) else (none)) = some (r1, r2) := by first | (rw [hji12] at H; exact H) | (simp only [hji12] at H ⊢; exact H)
              have hji12w : (IntKind.i64.wrap (x5_1 + 4)) = ji12 := (i64_w _).trans hji12
              have c13 : 0 ≤ (ji12) := by
                refine Classical.byContradiction fun c13 => ?_
                rw [if_neg c13] at H
                exact absurd H (by simp)
              rw [if_pos c13] at H
              have c13b0 : decide (0 ≤ (ji12)) = true := decide_eq_true c13
              clear c13
              have c14 : (ji12) < (l0.length : Int) := by
                refine Classical.byContradiction fun c14 => ?_
                rw [if_neg c14] at H
                exact absurd H (by simp)
              rw [if_pos c14] at H
              have c14b0 : decide ((ji12) < (l0.length : Int)) = true := decide_eq_true c14
              clear c14
              obtain ⟨y370, hy370⟩ : ∃ y_ : List Int, y_ = (([] : List Int)) := ⟨_, rfl⟩
              replace H : (if 0 ≤ (wrap64 (x5_1 + 5)) then (if (wrap64 (x5_1 + 5)) ≤ (wrap64 ((wrap64 (x5_1 + 5)) + (wrap64 ((wrap64 ((wrap64 (rd l0 x5_1)) * 256)) + (wrap64 (rd l0 (ji5))))))) then (if (wrap64 ((wrap64 (x5_1 + 5)) + (wrap64 ((wrap64 ((wrap64 (rd l0 x5_1)) * 256)) + (wrap64 (rd l0 (ji5))))))) ≤ (l0.length : Int) then ((some ((l0.take ((wrap64 ((wrap64 (x5_1 + 5)) + (wrap64 ((wrap64 ((wrap64 (rd l0 x5_1)) * 256)) + (wrap64 (rd l0 (ji5))))))) : Int).toNat).drop ((wrap64 (x5_1 + 5)) : Int).toNat : List Int)).bind fun y373 => (if y370.length + y373.length < 140737488355328 then ((some (y370 ++ y373 : List Int)).bind fun y377 => ((customsref33_Encode.f kj7 (wrap64 (rd l0 (ji12))) y377).bind fun bt381 => (if bt381.2 = 0 then (if 0 ≤ x5_1 then (if x5_1 ≤ (wrap64 ((wrap64 (x5_1 + 9)) + (wrap64 ((wrap64 ((wrap64 (rd l0 x5_1)) * 256)) + (wrap64 (rd l0 (ji5))))))) then (if (wrap64 ((wrap64 (x5_1 + 9)) + (wrap64 ((wrap64 ((wrap64 (rd l0 x5_1)) * 256)) + (wrap64 (rd l0 (ji5))))))) ≤ (l0.length : Int) then ((customsref33_SameBytes.f bt381.1 ((l0.take ((wrap64 ((wrap64 (x5_1 + 9)) + (wrap64 ((wrap64 ((wrap64 (rd l0 x5_1)) * 256)) + (wrap64 (rd l0 (ji5))))))) : Int).toNat).drop (x5_1 : Int).toNat)).bind fun t389 => (if t389 = true then (if x4_1.length < 4398046511104 then (customsref33_Scan.l0 kj7 l0 (x4_1 ++ [(⟨wrap64 (rd l0 (ji12)), y377⟩ : S43)]) (wrap64 ((wrap64 (x5_1 + 9)) + (wrap64 ((wrap64 ((wrap64 (rd l0 x5_1)) * 256)) + (wrap64 (rd l0 (ji5)))))))) else (none)) else (some (x4_1, x5_1)))) else (none)) else (none)) else (none)) else (some (x4_1, x5_1))))) else (none))) else (none)) else (none)) else (none)) = some (r1, r2) := by first | (rw [hy370]; with_reducible exact H) | (have H2_ := (Option.bind_some _ _).symm.trans H; rw [hy370]; with_reducible exact H2_) | (have H2_ := (Option.bind_some _ _).symm.trans H; with_reducible exact H2_) | with_reducible exact H | (rw [hy370]; exact H) | exact H
              have Ny370 := Aside0.mk hy370
              clear hy370
              obtain ⟨ji15, hji15⟩ : ∃ j_ : Int, (wrap64 (x5_1 + 5)) = j_ := ⟨_, rfl⟩
              replace H : (if 0 ≤ (ji15) then (if (ji15) ≤ (wrap64 ((ji15) + (wrap64 ((wrap64 ((wrap64 (rd l0 x5_1)) * 256)) + (wrap64 (rd l0 (ji5))))))) then (if (wrap64 ((ji15) + (wrap64 ((wrap64 ((wrap64 (rd l0 x5_1)) * 256)) + (wrap64 (rd l0 (ji5))))))) ≤ (l0.length : Int) then ((some ((l0.take ((wrap64 ((ji15) + (wrap64 ((wrap64 ((wrap64 (rd l0 x5_1)) * 256)) + (wrap64 (rd l0 (ji5))))))) : Int).toNat).drop ((ji15) : Int).toNat : List Int)).bind fun y373 => (if y370.length + y373.length < 140737488355328 then ((some (y370 ++ y373 : List Int)).bind fun y377 => ((customsref33_Encode.f kj7 (wrap64 (rd l0 (ji12))) y377).bind fun bt381 => (if bt381.2 = 0 then (if 0 ≤ x5_1 then (if x5_1 ≤ (wrap64 ((wrap64 (x5_1 + 9)) + (wrap64 ((wrap64 ((wrap64 (rd l0 x5_1)) * 256)) + (wrap64 (rd l0 (ji5))))))) then (if (wrap64 ((wrap64 (x5_1 + 9)) + (wrap64 ((wrap64 ((wrap64 (rd l0 x5_1)) * 256)) + (wrap64 (rd l0 (ji5))))))) ≤ (l0.length : Int) then ((customsref33_SameBytes.f bt381.1 ((l0.take ((wrap64 ((wrap64 (x5_1 + 9)) + (wrap64 ((wrap64 ((wrap64 (rd l0 x5_1)) * 256)) + (wrap64 (rd l0 (ji5))))))) : Int).toNat).drop (x5_1 : Int).toNat)).bind fun t389 => (if t389 = true then (if x4_1.length < 4398046511104 then (customsref33_Scan.l0 kj7 l0 (x4_1 ++ [(⟨wrap64 (rd l0 (ji12)), y377⟩ : S43)]) (wrap64 ((wrap64 (x5_1 + 9)) + (wrap64 ((wrap64 ((wrap64 (rd l0 x5_1)) * 256)) + (wrap64 (rd l0 (ji5)))))))) else (none)) else (some (x4_1, x5_1)))) else (none)) else (none)) else (none)) else (some (x4_1, x5_1))))) else (none))) else (none)) else (none)) else (none)) = some (r1, r2) := by first | (rw [hji15] at H; exact H) | (simp only [hji15] at H ⊢; exact H)
              have hji15w : (IntKind.i64.wrap (x5_1 + 5)) = ji15 := (i64_w _).trans hji15
              have c16 : 0 ≤ (ji15) := by
                refine Classical.byContradiction fun c16 => ?_
                rw [if_neg c16] at H
                exact absurd H (by simp)
              rw [if_pos c16] at H
              have c16b0 := eq_true c16
              have c16b1 : decide (0 ≤ (ji15)) = true := decide_eq_true c16
              clear c16
              have c17 : (ji15) ≤ (wrap64 ((ji15) + (wrap64 ((wrap64 ((wrap64 (rd l0 x5_1)) * 256)) + (wrap64 (rd l0 (ji5))))))) := by
                refine Classical.byContradiction fun c17 => ?_
                rw [if_neg c17] at H
                exact absurd H (by simp)
              rw [if_pos c17] at H
              have c17b0 := eq_true c17
              have c17b1 : decide ((ji15) ≤ (wrap64 ((ji15) + (wrap64 ((wrap64 ((wrap64 (rd l0 x5_1)) * 256)) + (wrap64 (rd l0 (ji5)))))))) = true := decide_eq_true c17
              have c18 : (wrap64 ((ji15) + (wrap64 ((wrap64 ((wrap64 (rd l0 x5_1)) * 256)) + (wrap64 (rd l0 (ji5))))))) ≤ (l0.length : Int) := by
                refine Classical.byContradiction fun c18 => ?_
                rw [if_neg c18] at H
                exact absurd H (by simp)
              rw [if_pos c18] at H
              have c18b0 := eq_true c18
              have c18b1 : decide ((wrap64 ((ji15) + (wrap64 ((wrap64 ((wrap64 (rd l0 x5_1)) * 256)) + (wrap64 (rd l0 (ji5))))))) ≤ (l0.length : Int)) = true := decide_eq_true c18
              obtain ⟨y373, hy373⟩ : ∃ y_ : List Int, y_ = ((l0.take ((wrap64 ((ji15) + (wrap64 ((wrap64 ((wrap64 (rd l0 x5_1)) * 256)) + (wrap64 (rd l0 (ji5))))))) : Int).toNat).drop ((ji15) : Int).toNat) := ⟨_, rfl⟩
              replace H : (if y370.length + y373.length < 140737488355328 then ((some (y370 ++ y373 : List Int)).bind fun y377 => ((customsref33_Encode.f kj7 (wrap64 (rd l0 (ji12))) y377).bind fun bt381 => (if bt381.2 = 0 then (if 0 ≤ x5_1 then (if x5_1 ≤ (wrap64 ((wrap64 (x5_1 + 9)) + (wrap64 ((wrap64 ((wrap64 (rd l0 x5_1)) * 256)) + (wrap64 (rd l0 (ji5))))))) then (if (wrap64 ((wrap64 (x5_1 + 9)) + (wrap64 ((wrap64 ((wrap64 (rd l0 x5_1)) * 256)) + (wrap64 (rd l0 (ji5))))))) ≤ (l0.length : Int) then ((customsref33_SameBytes.f bt381.1 ((l0.take ((wrap64 ((wrap64 (x5_1 + 9)) + (wrap64 ((wrap64 ((wrap64 (rd l0 x5_1)) * 256)) + (wrap64 (rd l0 (ji5))))))) : Int).toNat).drop (x5_1 : Int).toNat)).bind fun t389 => (if t389 = true then (if x4_1.length < 4398046511104 then (customsref33_Scan.l0 kj7 l0 (x4_1 ++ [(⟨wrap64 (rd l0 (ji12)), y377⟩ : S43)]) (wrap64 ((wrap64 (x5_1 + 9)) + (wrap64 ((wrap64 ((wrap64 (rd l0 x5_1)) * 256)) + (wrap64 (rd l0 (ji5)))))))) else (none)) else (some (x4_1, x5_1)))) else (none)) else (none)) else (none)) else (some (x4_1, x5_1))))) else (none)) = some (r1, r2) := by first | (rw [hy373]; with_reducible exact H) | (have H2_ := (Option.bind_some _ _).symm.trans H; rw [hy373]; with_reducible exact H2_) | (have H2_ := (Option.bind_some _ _).symm.trans H; with_reducible exact H2_) | with_reducible exact H | (rw [hy373]; exact H) | exact H
              have Ny373 := Aside0.mk hy373
              clear hy373
              have c19 : y370.length + y373.length < 140737488355328 := by
                refine Classical.byContradiction fun c19 => ?_
                rw [if_neg c19] at H
                exact absurd H (by simp)
              rw [if_pos c19] at H
              have LMc19 := Aside0.mk c19
              clear c19
              obtain ⟨y377, hy377⟩ : ∃ y_ : List Int, y_ = (y370 ++ y373) := ⟨_, rfl⟩
              replace H : ((customsref33_Encode.f kj7 (wrap64 (rd l0 (ji12))) y377).bind fun bt381 => (if bt381.2 = 0 then (if 0 ≤ x5_1 then (if x5_1 ≤ (wrap64 ((wrap64 (x5_1 + 9)) + (wrap64 ((wrap64 ((wrap64 (rd l0 x5_1)) * 256)) + (wrap64 (rd l0 (ji5))))))) then (if (wrap64 ((wrap64 (x5_1 + 9)) + (wrap64 ((wrap64 ((wrap64 (rd l0 x5_1)) * 256)) + (wrap64 (rd l0 (ji5))))))) ≤ (l0.length : Int) then ((customsref33_SameBytes.f bt381.1 ((l0.take ((wrap64 ((wrap64 (x5_1 + 9)) + (wrap64 ((wrap64 ((wrap64 (rd l0 x5_1)) * 256)) + (wrap64 (rd l0 (ji5))))))) : Int).toNat).drop (x5_1 : Int).toNat)).bind fun t389 => (if t389 = true then (if x4_1.length < 4398046511104 then (customsref33_Scan.l0 kj7 l0 (x4_1 ++ [(⟨wrap64 (rd l0 (ji12)), y377⟩ : S43)]) (wrap64 ((wrap64 (x5_1 + 9)) + (wrap64 ((wrap64 ((wrap64 (rd l0 x5_1)) * 256)) + (wrap64 (rd l0 (ji5)))))))) else (none)) else (some (x4_1, x5_1)))) else (none)) else (none)) else (none)) else (some (x4_1, x5_1)))) = some (r1, r2) := by first | (rw [hy377]; with_reducible exact H) | (have H2_ := (Option.bind_some _ _).symm.trans H; rw [hy377]; with_reducible exact H2_) | (have H2_ := (Option.bind_some _ _).symm.trans H; with_reducible exact H2_) | with_reducible exact H | (rw [hy377]; exact H) | exact H
              have Ny377 := Aside0.mk hy377
              clear hy377
              replace H := Option.bind_eq_some_iff.mp H
              obtain ⟨⟨t381, t384⟩, A200, H⟩ := H
              replace H : (if t384 = 0 then (if 0 ≤ x5_1 then (if x5_1 ≤ (wrap64 ((wrap64 (x5_1 + 9)) + (wrap64 ((wrap64 ((wrap64 (rd l0 x5_1)) * 256)) + (wrap64 (rd l0 (ji5))))))) then (if (wrap64 ((wrap64 (x5_1 + 9)) + (wrap64 ((wrap64 ((wrap64 (rd l0 x5_1)) * 256)) + (wrap64 (rd l0 (ji5))))))) ≤ (l0.length : Int) then ((customsref33_SameBytes.f t381 ((l0.take ((wrap64 ((wrap64 (x5_1 + 9)) + (wrap64 ((wrap64 ((wrap64 (rd l0 x5_1)) * 256)) + (wrap64 (rd l0 (ji5))))))) : Int).toNat).drop (x5_1 : Int).toNat)).bind fun t389 => (if t389 = true then (if x4_1.length < 4398046511104 then (customsref33_Scan.l0 kj7 l0 (x4_1 ++ [(⟨wrap64 (rd l0 (ji12)), y377⟩ : S43)]) (wrap64 ((wrap64 (x5_1 + 9)) + (wrap64 ((wrap64 ((wrap64 (rd l0 x5_1)) * 256)) + (wrap64 (rd l0 (ji5)))))))) else (none)) else (some (x4_1, x5_1)))) else (none)) else (none)) else (none)) else (some (x4_1, x5_1))) = some (r1, r2) := H
              have A20 := Aside0.mk A200
              clear A200
              by_cases c21 : t384 = 0
              · rw [if_pos c21] at H
                have c21b0 : (t384 == 0) = true := beq_iff_eq.mpr c21
                have c21b1 : (t384 != 0) = false := bne_eq_false_iff_eq.mpr c21
                clear c21
                have c22 : 0 ≤ x5_1 := by
                  refine Classical.byContradiction fun c22 => ?_
                  rw [if_neg c22] at H
                  exact absurd H (by simp)
                rw [if_pos c22] at H
                have c22b0 := eq_true c22
                have c22b1 : decide (0 ≤ x5_1) = true := decide_eq_true c22
                clear c22
                have c23 : x5_1 ≤ (wrap64 ((wrap64 (x5_1 + 9)) + (wrap64 ((wrap64 ((wrap64 (rd l0 x5_1)) * 256)) + (wrap64 (rd l0 (ji5))))))) := by
                  refine Classical.byContradiction fun c23 => ?_
                  rw [if_neg c23] at H
                  exact absurd H (by simp)
                rw [if_pos c23] at H
                have c23b0 := eq_true c23
                have c23b1 : decide (x5_1 ≤ (wrap64 ((wrap64 (x5_1 + 9)) + (wrap64 ((wrap64 ((wrap64 (rd l0 x5_1)) * 256)) + (wrap64 (rd l0 (ji5)))))))) = true := decide_eq_true c23
                have c24 : (wrap64 ((wrap64 (x5_1 + 9)) + (wrap64 ((wrap64 ((wrap64 (rd l0 x5_1)) * 256)) + (wrap64 (rd l0 (ji5))))))) ≤ (l0.length : Int) := by
                  refine Classical.byContradiction fun c24 => ?_
                  rw [if_neg c24] at H
                  exact absurd H (by simp)
                rw [if_pos c24] at H
                have c24b0 := eq_true c24
                have c24b1 : decide ((wrap64 ((wrap64 (x5_1 + 9)) + (wrap64 ((wrap64 ((wrap64 (rd l0 x5_1)) * 256)) + (wrap64 (rd l0 (ji5))))))) ≤ (l0.length : Int)) = true := decide_eq_true c24
                obtain ⟨y385, hy385⟩ : ∃ y_ : List Int, y_ = ((l0.take ((wrap64 ((wrap64 (x5_1 + 9)) + (wrap64 ((wrap64 ((wrap64 (rd l0 x5_1)) * 256)) + (wrap64 (rd l0 (ji5))))))) : Int).toNat).drop (x5_1 : Int).toNat) := ⟨_, rfl⟩
                replace H : ((customsref33_SameBytes.f t381 y385).bind fun t389 => (if t389 = true then (if x4_1.length < 4398046511104 then (customsref33_Scan.l0 kj7 l0 (x4_1 ++ [(⟨wrap64 (rd l0 (ji12)), y377⟩ : S43)]) (wrap64 ((wrap64 (x5_1 + 9)) + (wrap64 ((wrap64 ((wrap64 (rd l0 x5_1)) * 256)) + (wrap64 (rd l0 (ji5)))))))) else (none)) else (some (x4_1, x5_1)))) = some (r1, r2) := by first | (rw [hy385]; with_reducible exact H) | (have H2_ := (Option.bind_some _ _).symm.trans H; rw [hy385]; with_reducible exact H2_) | (have H2_ := (Option.bind_some _ _).symm.trans H; with_reducible exact H2_) | with_reducible exact H | (rw [hy385]; exact H) | exact H
                have Ny385 := Aside0.mk hy385
                clear hy385
                replace H := Option.bind_eq_some_iff.mp H
                obtain ⟨t389, A250, H⟩ := H
                replace H : (if t389 = true then (if x4_1.length < 4398046511104 then (customsref33_Scan.l0 kj7 l0 (x4_1 ++ [(⟨wrap64 (rd l0 (ji12)), y377⟩ : S43)]) (wrap64 ((wrap64 (x5_1 + 9)) + (wrap64 ((wrap64 ((wrap64 (rd l0 x5_1)) * 256)) + (wrap64 (rd l0 (ji5)))))))) else (none)) else (some (x4_1, x5_1))) = some (r1, r2) := H
                have A25 := Aside0.mk A250
                clear A250
                by_cases c26 : t389 = true
                · subst c26
                  have H1 : (if x4_1.length < 4398046511104 then (customsref33_Scan.l0 kj7 l0 (x4_1 ++ [(⟨wrap64 (rd l0 (ji12)), y377⟩ : S43)]) (wrap64 ((wrap64 (x5_1 + 9)) + (wrap64 ((wrap64 ((wrap64 (rd l0 x5_1)) * 256)) + (wrap64 (rd l0 (ji5)))))))) else (none)) = some (r1, r2) := by rw [if_pos rfl] at H; exact H
                  clear H
                  have H := H1
                  clear H1
                  have c27 : x4_1.length < 4398046511104 := by
                    refine Classical.byContradiction fun c27 => ?_
                    rw [if_neg c27] at H
                    exact absurd H (by simp)
                  rw [if_pos c27] at H
                  have LMc27 := Aside0.mk c27
                  clear c27
                  obtain ⟨y390, hy390⟩ : ∃ y_ : List (S43), y_ = (x4_1 ++ [(⟨wrap64 (rd l0 (ji12)), y377⟩ : S43)]) := ⟨_, rfl⟩
                  replace H : (customsref33_Scan.l0 kj7 l0 y390 (wrap64 ((wrap64 (x5_1 + 9)) + (wrap64 ((wrap64 ((wrap64 (rd l0 x5_1)) * 256)) + (wrap64 (rd l0 (ji5)))))))) = some (r1, r2) := by first | (rw [hy390]; with_reducible exact H) | (have H2_ := (Option.bind_some _ _).symm.trans H; rw [hy390]; with_reducible exact H2_) | (have H2_ := (Option.bind_some _ _).symm.trans H; with_reducible exact H2_) | with_reducible exact H | (rw [hy390]; exact H) | exact H
                  have Ny390 := Aside0.mk hy390
                  clear hy390
                  have H' := Aside0.mk H
                  clear H
                  try go_wp2
                  have n0_ := Aside0.mk (Kd.S_drew HO_4.out)
                  have n1_ := Aside0.mk (below_drew1 HB.out)
                  clear HO_4
                  clear HB
                  have HO_4 := n0_
                  have HB := n1_
                  clear n0_ n1_
                  have p369 : 0 ≤ ((ji12) : Int) := of_decide_eq_true (by first | (with_reducible assumption) | assumption)
                  have q369 : (ji12) < (l0.length : Int) := of_decide_eq_true (by first | (with_reducible assumption) | assumption)
                  obtain ⟨ad369, e369, hx369_0⟩ := Kd.at_int HR0.out (ji12) p369 q369
                  have hw369_0 := hx369_0
                  obtain rfl : ad367 = ad369 := (by injection e369)
                  replace hx369_0 := (HB.out.cell (World.block_lt_of_cell? w _ hx369_0)).trans hx369_0
                  replace p369 := eq_true p369
                  replace q369 := eq_true q369
                  have q29 : ((wrap64 ((ji15) + (wrap64 ((wrap64 ((wrap64 (rd l0 x5_1)) * 256)) + (wrap64 (rd l0 (ji5))))))) : Int) ≤ ((l0.length : Int) : Int) := of_decide_eq_true (by first | (with_reducible assumption) | assumption)
                  obtain ⟨i029, hi029, _, hsz29, _⟩ := info_parts info5
                  have hroom29 : l0.length ≤ c0 := HC0.out
                  have hC29 : Kd.C (Kd.int .u8) _ (some ad367) l0.length l0 := HR0.out
                  have ql29 : ((ji15) : Int) ≤ ((wrap64 ((ji15) + (wrap64 ((wrap64 ((wrap64 (rd l0 x5_1)) * 256)) + (wrap64 (rd l0 (ji5))))))) : Int) := of_decide_eq_true (by first | (with_reducible assumption) | assumption)
                  have q029 : (0 : Int) ≤ ((ji15) : Int) := of_decide_eq_true (by first | (with_reducible assumption) | assumption)
                  have hcut29 := cut_mid (P := Try.prog) 22 5 .i64 .i64 Try.underlying22 hi029 1 hsz29 (some ad367) l0.length c0 (ji15) (wrap64 ((ji15) + (wrap64 ((wrap64 ((wrap64 (rd l0 x5_1)) * 256)) + (wrap64 (rd l0 (ji5))))))) q029 ql29 q29 hroom29
                  have hr29 := Kd.C_mid (lo := ((ji15) : Int).toNat) (hi := ((wrap64 ((ji15) + (wrap64 ((wrap64 ((wrap64 (rd l0 x5_1)) * 256)) + (wrap64 (rd l0 (ji5))))))) : Int).toNat) (c := c0) hC29 (by omega) (by omega) hroom29
                  obtain ⟨A29, hA29⟩ : ∃ A1, A1 = (if c0 = ((ji15) : Int).toNat then (some ad367) else ((some ad367) : Option Addr).map (·.add (((ji15) : Int).toNat * 1))) := ⟨_, rfl⟩
                  obtain ⟨c29, hc29⟩ : ∃ c1, c1 = c0 - ((ji15) : Int).toNat := ⟨_, rfl⟩
                  have hy29 : y373.length = ((wrap64 ((ji15) + (wrap64 ((wrap64 ((wrap64 (rd l0 x5_1)) * 256)) + (wrap64 (rd l0 (ji5))))))) : Int).toNat - ((ji15) : Int).toNat := (by rw [Ny373.out, List.length_drop, List.length_take] <;> omega)
                  rw [show ((l0).take ((wrap64 ((ji15) + (wrap64 ((wrap64 ((wrap64 (rd l0 x5_1)) * 256)) + (wrap64 (rd l0 (ji5))))))) : Int).toNat).drop ((ji15) : Int).toNat = y373 from Ny373.out.symm] at hr29
                  replace hr29 : Kd.C (Kd.int .u8) _ A29 y373.length y373 := (by rw [hA29]; exact hr29)
                  rw [← hy29, ← hA29, ← hc29] at hcut29
                  have HR376 := Aside0.mk hr29
                  have HC376 := Aside0.mk (show y373.length ≤ c29 from by rw [hy29, hc29]; exact Nat.sub_le_sub_right (Nat.le_trans (by omega) hroom29) _)
                  clear hr29 hC29 hroom29 hi029 hsz29 hc29
                  have KY29 := Aside0.mk hy29
                  have KA29 := Aside0.mk hA29
                  clear hy29 hA29
                  replace q29 := eq_true q29
                  refine start_ (n := 19) (S := fun w' => w'.cell? (ad367.add ((ji12)).toNat) = some (.int .u8 (rd l0 (ji12)))) (ds := []) #[false, false, false, false, false, false, false, false, false, false, false, false, false, false, false, false, false, false, false] (by kernel_rfl) rfl rfl (((HB.out.cell (World.block_lt_of_cell? w _ hw369_0)).trans hw369_0)) (fun hHeld => ?_); refine with_tabW customsref33_Scan.tab6 customsref33_Scan.bits6 (fun HT_ HW_ => ?_)
                  generalize wc.drew = w28 at HO_4 HB HR376 hx369_0 hHeld ⊢
                  refine pure_ (i := 0) (N := some 39) (v := ?_) (a' := ?_) #[true, false, false, false, false, false, false, false, false, false, false, false, false, false, false, false, false, false, false] rfl rfl (any_of HT_.out (by kernel_rfl)) (fun _ _ _ h => h) (Or.inl ⟨by rfl, ?_⟩) ?_ ?_
                  rotate_left
                  · intro w'
                    go_simp
                    with_reducible rfl
                  rotate_left
                  · simp only [Act.put, List.setIfInBounds_toArray, List.set_cons_zero, List.set_cons_succ, i64_w, i32_w]
                    rfl
                  refine pure_ (i := 1) (N := some 40) (v := ?_) (a' := ?_) #[true, true, false, false, false, false, false, false, false, false, false, false, false, false, false, false, false, false, false] rfl rfl (any_of HT_.out (by kernel_rfl)) (fun _ _ _ h => h) (Or.inl ⟨by rfl, ?_⟩) ?_ ?_
                  rotate_left
                  · intro w'
                    go_simp
                    with_reducible rfl
                  rotate_left
                  · simp only [Act.put, List.setIfInBounds_toArray, List.set_cons_zero, List.set_cons_succ, i64_w, i32_w]
                    rfl
                  refine pure_ (i := 2) (N := some 41) (v := ?_) (a' := ?_) #[true, true, true, false, false, false, false, false, false, false, false, false, false, false, false, false, false, false, false] rfl rfl (any_of HT_.out (by kernel_rfl)) (fun _ _ _ h => h) (Or.inl ⟨by rfl, ?_⟩) ?_ ?_
                  rotate_left
                  · intro w'
                    go_simp
                    with_reducible rfl
                  rotate_left
                  · simp only [Act.put, List.setIfInBounds_toArray, List.set_cons_zero, List.set_cons_succ, i64_w, i32_w]
                    rfl
                  refine pure_ (i := 3) (N := some 42) (v := ?_) (a' := ?_) #[true, true, true, true, false, false, false, false, false, false, false, false, false, false, false, false, false, false, false] rfl rfl (any_of HT_.out (by kernel_rfl)) (fun _ _ _ h => h) (Or.inl ⟨by rfl, ?_⟩) ?_ ?_
                  rotate_left
                  · intro w'
                    go_simp
                    with_reducible rfl
                  rotate_left
                  · simp only [Act.put, List.setIfInBounds_toArray, List.set_cons_zero, List.set_cons_succ, i64_w, i32_w]
                    rfl
                  refine pure_ (i := 7) (N := some 46) (v := ?_) (a' := ?_) #[true, true, true, true, false, false, false, true, false, false, false, false, false, false, false, false, false, false, false] rfl rfl (any_of HT_.out (by kernel_rfl)) (fun _ _ _ h => h) (Or.inl ⟨by rfl, ?_⟩) ?_ ?_
                  rotate_left
                  · intro w'
                    go_simp
                    with_reducible rfl
                  rotate_left
                  · simp only [Act.put, List.setIfInBounds_toArray, List.set_cons_zero, List.set_cons_succ, i64_w, i32_w]
                    rfl
                  refine pure_ (i := 8) (N := some 47) (v := ?_) (a' := ?_) #[true, true, true, true, false, false, false, true, true, false, false, false, false, false, false, false, false, false, false] rfl rfl (any_of HT_.out (by kernel_rfl)) (fun _ _ _ h => h) (Or.inl ⟨by rfl, ?_⟩) ?_ ?_
                  rotate_left
                  · intro w'
                    go_simp
                    with_reducible rfl
                  rotate_left
                  · simp only [Act.put, List.setIfInBounds_toArray, List.set_cons_zero, List.set_cons_succ, i64_w, i32_w]
                    rfl
                  refine pure_ (i := 9) (N := some 48) (v := ?_) (a' := ?_) #[true, true, true, true, false, false, false, true, true, true, false, false, false, false, false, false, false, false, false] rfl rfl (any_of HT_.out (by kernel_rfl)) (fun _ _ _ h => h) (Or.inl ⟨by rfl, ?_⟩) ?_ ?_
                  rotate_left
                  · intro w'
                    go_simp
                    with_reducible rfl
                  rotate_left
                  · simp only [Act.put, List.setIfInBounds_toArray, List.set_cons_zero, List.set_cons_succ, i64_w, i32_w]
                    rfl
                  refine pure_ (i := 10) (N := some 49) (v := ?_) (a' := ?_) #[true, true, true, true, false, false, false, true, true, true, true, false, false, false, false, false, false, false, false] rfl rfl (any_of HT_.out (by kernel_rfl)) (fun _ _ _ h => h) (Or.inl ⟨by rfl, ?_⟩) ?_ ?_
                  rotate_left
                  · intro w'
                    go_simp
                    with_reducible rfl
                  rotate_left
                  · simp only [Act.put, List.setIfInBounds_toArray, List.set_cons_zero, List.set_cons_succ, i64_w, i32_w]
                    rfl
                  refine pure_ (i := 11) (N := some 50) (v := ?_) (a' := ?_) #[true, true, true, true, false, false, false, true, true, true, true, true, false, false, false, false, false, false, false] rfl rfl (any_of HT_.out (by kernel_rfl)) (fun _ _ _ h => h) (Or.inl ⟨by rfl, ?_⟩) ?_ ?_
                  rotate_left
                  · intro w'
                    go_simp
                    with_reducible rfl
                  rotate_left
                  · simp only [Act.put, List.setIfInBounds_toArray, List.set_cons_zero, List.set_cons_succ, i64_w, i32_w]
                    rfl
                  refine pure_ (i := 12) (N := some 51) (v := ?_) (a' := ?_) #[true, true, true, true, false, false, false, true, true, true, true, true, true, false, false, false, false, false, false] rfl rfl (any_of HT_.out (by kernel_rfl)) (fun _ _ _ h => h) (Or.inl ⟨by rfl, ?_⟩) ?_ ?_
                  rotate_left
                  · intro w'
                    go_simp
                    with_reducible rfl
                  rotate_left
                  · simp only [Act.put, List.setIfInBounds_toArray, List.set_cons_zero, List.set_cons_succ, i64_w, i32_w]
                    rfl
                  refine pure_ (i := 13) (N := some 52) (v := ?_) (a' := ?_) #[true, true, true, true, false, false, false, true, true, true, true, true, true, true, false, false, false, false, false] rfl rfl (any_of HT_.out (by kernel_rfl)) (fun _ _ _ h => h) (Or.inl ⟨by rfl, ?_⟩) ?_ ?_
                  rotate_left
                  · intro w'
                    go_simp
                    with_reducible rfl
                  rotate_left
                  · simp only [Act.put, List.setIfInBounds_toArray, List.set_cons_zero, List.set_cons_succ, i64_w, i32_w]
                    rfl
                  refine pure_ (i := 14) (N := some 53) (v := ?_) (a' := ?_) #[true, true, true, true, false, false, false, true, true, true, true, true, true, true, true, false, false, false, false] rfl rfl (any_of HT_.out (by kernel_rfl)) (fun _ _ _ h => h) (Or.inl ⟨by rfl, ?_⟩) ?_ ?_
                  rotate_left
                  · intro w'
                    go_simp
                    with_reducible rfl
                  rotate_left
                  · simp only [Act.put, List.setIfInBounds_toArray, List.set_cons_zero, List.set_cons_succ, i64_w, i32_w]
                    rfl
                  refine take_ (i := 4) (N := some 43) (v := ?_) (a' := ?_) #[true, true, true, true, true, false, false, true, true, true, true, true, true, true, true, false, false, false, false] rfl rfl (take_ofW HT_.out HW_.out (by kernel_rfl)) (fun _ _ _ h => h) (Or.inl ⟨by rfl, ?_⟩) hHeld ?_ ?_
                  rotate_left
                  · intro w' s0
                    go_simp
                    with_reducible rfl
                  rotate_left
                  · simp only [Act.put, List.setIfInBounds_toArray, List.set_cons_zero, List.set_cons_succ, i64_w, i32_w]
                    rfl
                  refine pure_ (i := 5) (N := some 44) (v := ?_) (a' := ?_) #[true, true, true, true, true, true, false, true, true, true, true, true, true, true, true, false, false, false, false] rfl rfl (any_of HT_.out (by kernel_rfl)) (fun _ _ _ h => h) (Or.inl ⟨by rfl, ?_⟩) ?_ ?_
                  rotate_left
                  · intro w'
                    go_simp
                    with_reducible rfl
                  rotate_left
                  · simp only [Act.put, List.setIfInBounds_toArray, List.set_cons_zero, List.set_cons_succ, i64_w, i32_w]
                    rfl
                  refine join_ (σ := Value × Value × Nat) 1 #[true, true, true, true, true, true, true, true, true, true, true, true, true, true, true, true, true, true, false] (fun s_ => [(45, s_.1), (54, s_.2.1), (7, .pointer (some ⟨s_.2.2, 0, none⟩)), (55, .agg #[.int .i64 (wrap64 (rd l0 (ji12))), s_.2.1])]) (fun s_ w' => (w'.cell? (ad367.add ((ji12)).toNat) = some (.int .u8 (rd l0 (ji12)))) ∧ (Kd.R (Kd.int .u8) 5 w' w.heap.size (fun _ => True) s_.2.1 y377) ∧ (Kd.S k43 43 w' w.heap.size (fun k_ => some k_ ≠ (s_.2.1 : Value).ownBlock ∧ k_ ≠ s_.2.2) u4 x4_1) ∧ (w'.heap[s_.2.2]? = some (.cells #[.int .i64 0, .slice none 0 0] 43 (0, 0))) ∧ (w.heap.size ≤ s_.2.2) ∧ (w.heap.size ≤ s_.2.2) ∧ (Below w.heap.size w w')) ?_ ?_
                  rotate_left
                  · intro hCont
                    refine two_ (i := 6) (j := 17) (Ni := some 45) (Nj := some 7) #[true, true, true, true, true, true, true, true, true, true, true, true, true, true, true, false, false, false, false] #[true, true, true, true, true, true, false, true, true, true, true, true, true, true, true, false, false, true, false] rfl rfl rfl rfl (two_of HT_.out (by kernel_rfl)) (by decide) (by decide) (fun K hK => ?_) (fun K hK => ?_)
                    · skip
                      refine Kd.R_lit_step (Kd.int .u8) _ 5 ?hg (N := 45) ?hd (xs := ([] : List Int)) (inner := []) (ok := fun _ => True) (okp := fun _ => True) ?hr ?hp (fun _ hk => hk) trivial (Below.refl _ _) (Nat.le_refl _) (by simp) ?_; (case hd => rfl); (case hg => rfl); (case hr => first | (go_simp; done) | (go_simp; rfl)); (case hp => exact (Reps.none _ _))
                      intro v371 w30 ho31 hb hg_ hnew_
                      clear hg_ hnew_
                      (first | rw [← Ny370.out] at ho31 | (simp only [Int.reduceToNat] at ho31; rw [← Ny370.out] at ho31))
                      have n0_ := Aside0.mk (Kd.S_elder' (by exact pS HO_4.out) (Kd.R_base ho31) hb)
                      have n1_ := Aside0.mk (Kd.R_lower ho31 (below_size (by exact pB HB.out)))
                      have n2_ := Aside0.mk (below_step (by exact pB HB.out) hb)
                      clear HO_4
                      clear HB
                      have HO_4 := n0_
                      have HO372 := n1_
                      have HB := n2_
                      clear n0_ n1_ n2_
                      clear hb ho31
                      refine hK.out _ _ (((HB.out.cell (World.block_lt_of_cell? w _ hw369_0)).trans hw369_0)) (fun hHeld => ?_)
                      clear hK K
                      refine norm_ (a' := ?_) ?_ ?_
                      rotate_left
                      · show Act.put _ (some 45) _ = _
                        simp only [Act.put, List.setIfInBounds_toArray, List.set_cons_zero, List.set_cons_succ, i64_w, i32_w]
                        rfl
                      refine two_ (i := 15) (j := 17) (Ni := some 54) (Nj := some 7) #[true, true, true, true, true, true, true, true, true, true, true, true, true, true, true, true, false, false, false] #[true, true, true, true, true, true, true, true, true, true, true, true, true, true, true, false, false, true, false] rfl rfl rfl rfl (two_of HT_.out (by kernel_rfl)) (by decide) (by decide) (fun K hK => ?_) (fun K hK => ?_)
                      · skip
                        refine Kd.R_append_rows_step (Kd.int .u8) (w0 := w) w.heap.size (by rfl) (.tmp 45) (.tmp 53) 22 5 (.int .u8 0) 1 rfl Try.underlying22 info5 rfl (by decide) (by omega) v371 y370 y373 _ _ _ (fun _ => True) (fun _ => False) rfl rfl ?aO ?aR (fun _ _ h => h) (fun _ h => h.elim) ?aF ?aB ?aS ?aL ?_
                        (case aR => exact pC (Kd.C_below HR376.out HB.out))
                        (case aB => exact (by exact pB HB.out))
                        (case aF => exact (fun _ _ => trivial))
                        (case aO => exact (by exact pR HO372.out))
                        (case aS => exact (below_size (by exact pB HB.out)))
                        (case aL => have := LMc19.out; omega)
                        intro v378 w32 ho hb hg hat
                        rw [← Ny377.out] at ho
                        have n0_ := Aside0.mk (Kd.S_after (ok := (fun _ => True)) (by exact pS HO_4.out) hg hat)
                        have n1_ := Aside0.mk (hb)
                        have n2_ := Aside0.mk (ho)
                        clear HO_4
                        clear HB
                        clear HO372
                        have HO_4 := n0_
                        have HB := n1_
                        have HO379 := n2_
                        clear n0_ n1_ n2_
                        clear ho hb hg hat
                        obtain ⟨Ao33, co33, eo33⟩ := Kd.R_slice HO379.out
                        (first | subst eo33 | (injection eo33 with f1_ f2_ f3_; have f4_ := f1_.symm; have f5_ := f3_.symm; clear f1_ f2_ f3_; subst f4_; subst f5_))
                        refine hK.out _ _ (((HB.out.cell (World.block_lt_of_cell? w _ hw369_0)).trans hw369_0)) (fun hHeld => ?_)
                        clear hK K
                        refine norm_ (a' := ?_) ?_ ?_
                        rotate_left
                        · show Act.put _ (some 54) _ = _
                          simp only [Act.put, List.setIfInBounds_toArray, List.set_cons_zero, List.set_cons_succ, i64_w, i32_w]
                          rfl
                        refine pure_ (i := 16) (N := some 55) (v := ?_) (a' := ?_) #[true, true, true, true, true, true, true, true, true, true, true, true, true, true, true, true, true, false, false] rfl rfl (any_of HT_.out (by kernel_rfl)) (fun _ _ _ h => h) (Or.inl ⟨by rfl, ?_⟩) ?_ ?_
                        rotate_left
                        · intro w'
                          go_simp
                          with_reducible rfl
                        rotate_left
                        · simp only [Act.put, List.setIfInBounds_toArray, List.set_cons_zero, List.set_cons_succ, i64_w, i32_w]
                          rfl
                        refine one_ (i := 17) (N := some 7) #[true, true, true, true, true, true, true, true, true, true, true, true, true, true, true, true, true, true, false] rfl rfl (one_of HT_.out (by kernel_rfl)) (by decide) (fun K hK => ?_)
                        refine box_step ?hg (N := 7) ?hd (cs := #[.int .i64 0, .slice none 0 0]) (t := 43) ?hr ?_; (case hd => rfl); (case hg => rfl); (case hr => first | (go_simp; done) | (go_simp; rfl))
                        intro gb380 hg w34 hbox hb
                        have n0_ := Aside0.mk (Kd.S_below (Kd.S_elderB (by exact pS HO_4.out) gb380 (Nat.le_of_eq hg.symm)) hb)
                        have n1_ := Aside0.mk (Kd.R_below (by exact pR HO379.out) hb)
                        have n2_ := Aside0.mk (below_step (by exact pB HB.out) hb)
                        have n3_ := Aside0.mk (hbox)
                        have n4_ := Aside0.mk ((by rw [hg]; exact (below_size (by exact pB HB.out)) : w.heap.size ≤ gb380))
                        have n5_ := Aside0.mk ((by rw [hg]; exact (below_size (by exact pB HB.out)) : w.heap.size ≤ gb380))
                        clear HO_4
                        clear HO379
                        clear HB
                        have HO_4 := n0_
                        have HO379 := n1_
                        have HB := n2_
                        have BK380 := n3_
                        have GW380 := n4_
                        have GE380 := n5_
                        clear n0_ n1_ n2_ n3_ n4_ n5_
                        clear hb hbox hg
                        refine hK.out _ _ (((HB.out.cell (World.block_lt_of_cell? w _ hw369_0)).trans hw369_0)) (fun hHeld => ?_)
                        clear hK K
                        refine norm_ (a' := ?_) ?_ ?_
                        rotate_left
                        · show Act.put _ (some 7) _ = _
                          simp only [Act.put, List.setIfInBounds_toArray, List.set_cons_zero, List.set_cons_succ, i64_w, i32_w]
                          rfl
                        exact norm_ (by simp only [putAll, Act.put, List.setIfInBounds_toArray, List.set_cons_zero, List.set_cons_succ]) (hCont (v371, .slice Ao33 y377.length co33, gb380) _ ⟨hHeld, (by exact pR HO379.out), (by exact pS (Kd.S_mono HO_4.out (fun _ hk => ⟨hk.1.2, hk.2⟩))), (by exact pK BK380.out), GW380.out, GE380.out, (by exact pB HB.out)⟩)
                      · skip
                        refine box_step ?hg (N := 7) ?hd (cs := #[.int .i64 0, .slice none 0 0]) (t := 43) ?hr ?_; (case hd => rfl); (case hg => rfl); (case hr => first | (go_simp; done) | (go_simp; rfl))
                        intro gb380 hg w32 hbox hb
                        have n0_ := Aside0.mk (Kd.S_below (Kd.S_elderB (by exact pS HO_4.out) gb380 (Nat.le_of_eq hg.symm)) hb)
                        have n1_ := Aside0.mk (Kd.R_below (by exact pR HO372.out) hb)
                        have n2_ := Aside0.mk (below_step (by exact pB HB.out) hb)
                        have n3_ := Aside0.mk (hbox)
                        have n4_ := Aside0.mk ((by rw [hg]; exact (below_size (by exact pB HB.out)) : w.heap.size ≤ gb380))
                        have n5_ := Aside0.mk ((by rw [hg]; exact (below_size (by exact pB HB.out)) : w.heap.size ≤ gb380))
                        clear HO_4
                        clear HO372
                        clear HB
                        have HO_4 := n0_
                        have HO372 := n1_
                        have HB := n2_
                        have BK380 := n3_
                        have GW380 := n4_
                        have GE380 := n5_
                        clear n0_ n1_ n2_ n3_ n4_ n5_
                        clear hb hbox hg
                        refine hK.out _ _ (((HB.out.cell (World.block_lt_of_cell? w _ hw369_0)).trans hw369_0)) (fun hHeld => ?_)
                        clear hK K
                        refine norm_ (a' := ?_) ?_ ?_
                        rotate_left
                        · show Act.put _ (some 7) _ = _
                          simp only [Act.put, List.setIfInBounds_toArray, List.set_cons_zero, List.set_cons_succ, i64_w, i32_w]
                          rfl
                        refine one_ (i := 15) (N := some 54) #[true, true, true, true, true, true, true, true, true, true, true, true, true, true, true, true, false, true, false] rfl rfl (one_of HT_.out (by kernel_rfl)) (by decide) (fun K hK => ?_)
                        refine Kd.R_append_rows_step (Kd.int .u8) (w0 := w) w.heap.size (by rfl) (.tmp 45) (.tmp 53) 22 5 (.int .u8 0) 1 rfl Try.underlying22 info5 rfl (by decide) (by omega) v371 y370 y373 _ _ _ (fun _ => True) (fun _ => False) rfl rfl ?aO ?aR (fun _ _ h => h) (fun _ h => h.elim) ?aF ?aB ?aS ?aL ?_
                        (case aR => exact pC (Kd.C_below HR376.out HB.out))
                        (case aB => exact (by exact pB HB.out))
                        (case aF => exact (fun _ _ => trivial))
                        (case aO => exact (by exact pR HO372.out))
                        (case aS => exact (below_size (by exact pB HB.out)))
                        (case aL => have := LMc19.out; omega)
                        intro v378 w33 ho hb hg hat
                        rw [← Ny377.out] at ho
                        have n0_ := Aside0.mk (Kd.S_after (ok := (fun k_ => k_ ≠ gb380)) (by exact pS (Kd.S_mono HO_4.out (fun _ hk => ⟨hk.2, hk.1.2⟩))) hg hat)
                        have n1_ := Aside0.mk (blk_grown (g := gb380) (o := .cells #[.int .i64 0, .slice none 0 0] 43 (0, 0)) (by exact pK BK380.out) hg (Kd.R_ne HO372.out BK380.out (by decide)))
                        have n2_ := Aside0.mk (hb)
                        have n3_ := Aside0.mk (ho)
                        clear HO_4
                        clear BK380
                        clear HB
                        clear HO372
                        have HO_4 := n0_
                        have BK380 := n1_
                        have HB := n2_
                        have HO379 := n3_
                        clear n0_ n1_ n2_ n3_
                        clear ho hb hg hat
                        obtain ⟨Ao34, co34, eo34⟩ := Kd.R_slice HO379.out
                        (first | subst eo34 | (injection eo34 with f1_ f2_ f3_; have f4_ := f1_.symm; have f5_ := f3_.symm; clear f1_ f2_ f3_; subst f4_; subst f5_))
                        refine hK.out _ _ (((HB.out.cell (World.block_lt_of_cell? w _ hw369_0)).trans hw369_0)) (fun hHeld => ?_)
                        clear hK K
                        refine norm_ (a' := ?_) ?_ ?_
                        rotate_left
                        · show Act.put _ (some 54) _ = _
                          simp only [Act.put, List.setIfInBounds_toArray, List.set_cons_zero, List.set_cons_succ, i64_w, i32_w]
                          rfl
                        refine pure_ (i := 16) (N := some 55) (v := ?_) (a' := ?_) #[true, true, true, true, true, true, true, true, true, true, true, true, true, true, true, true, true, true, false] rfl rfl (any_of HT_.out (by kernel_rfl)) (fun _ _ _ h => h) (Or.inl ⟨by rfl, ?_⟩) ?_ ?_
                        rotate_left
                        · intro w'
                          go_simp
                          with_reducible rfl
                        rotate_left
                        · simp only [Act.put, List.setIfInBounds_toArray, List.set_cons_zero, List.set_cons_succ, i64_w, i32_w]
                          rfl
                        exact norm_ (by simp only [putAll, Act.put, List.setIfInBounds_toArray, List.set_cons_zero, List.set_cons_succ]) (hCont (v371, .slice Ao34 y377.length co34, gb380) _ ⟨hHeld, (by exact pR HO379.out), (by exact pS (Kd.S_mono HO_4.out (fun _ hk => ⟨hk.2, hk.1⟩))), (by exact pK BK380.out), GW380.out, GE380.out, (by exact pB HB.out)⟩)
                    · skip
                      refine box_step ?hg (N := 7) ?hd (cs := #[.int .i64 0, .slice none 0 0]) (t := 43) ?hr ?_; (case hd => rfl); (case hg => rfl); (case hr => first | (go_simp; done) | (go_simp; rfl))
                      intro gb380 hg w30 hbox hb
                      have n0_ := Aside0.mk (Kd.S_below (Kd.S_elderB (by exact pS HO_4.out) gb380 (Nat.le_of_eq hg.symm)) hb)
                      have n1_ := Aside0.mk (below_step (by exact pB HB.out) hb)
                      have n2_ := Aside0.mk (hbox)
                      have n3_ := Aside0.mk ((by rw [hg]; exact (below_size (by exact pB HB.out)) : w.heap.size ≤ gb380))
                      have n4_ := Aside0.mk ((by rw [hg]; exact (below_size (by exact pB HB.out)) : w.heap.size ≤ gb380))
                      clear HO_4
                      clear HB
                      have HO_4 := n0_
                      have HB := n1_
                      have BK380 := n2_
                      have GW380 := n3_
                      have GE380 := n4_
                      clear n0_ n1_ n2_ n3_ n4_
                      clear hb hbox hg
                      refine hK.out _ _ (((HB.out.cell (World.block_lt_of_cell? w _ hw369_0)).trans hw369_0)) (fun hHeld => ?_)
                      clear hK K
                      refine norm_ (a' := ?_) ?_ ?_
                      rotate_left
                      · show Act.put _ (some 7) _ = _
                        simp only [Act.put, List.setIfInBounds_toArray, List.set_cons_zero, List.set_cons_succ, i64_w, i32_w]
                        rfl
                      refine one_ (i := 6) (N := some 45) #[true, true, true, true, true, true, true, true, true, true, true, true, true, true, true, false, false, true, false] rfl rfl (one_of HT_.out (by kernel_rfl)) (by decide) (fun K hK => ?_)
                      refine Kd.R_lit_step (Kd.int .u8) _ 5 ?hg (N := 45) ?hd (xs := ([] : List Int)) (inner := []) (ok := fun _ => True) (okp := fun _ => True) ?hr ?hp (fun _ hk => hk) trivial (Below.refl _ _) (Nat.le_refl _) (by simp) ?_; (case hd => rfl); (case hg => rfl); (case hr => first | (go_simp; done) | (go_simp; rfl)); (case hp => exact (Reps.none _ _))
                      intro v371 w31 ho32 hb hg_ hnew_
                      clear hg_ hnew_
                      (first | rw [← Ny370.out] at ho32 | (simp only [Int.reduceToNat] at ho32; rw [← Ny370.out] at ho32))
                      have n0_ := Aside0.mk (Kd.S_elder' (by exact pS HO_4.out) (Kd.R_base ho32) hb)
                      have n1_ := Aside0.mk (Kd.R_lower ho32 (below_size (by exact pB HB.out)))
                      have n2_ := Aside0.mk (blk_below (g := gb380) (o := .cells #[.int .i64 0, .slice none 0 0] 43 (0, 0)) (by exact pK BK380.out) hb)
                      have n3_ := Aside0.mk (below_step (by exact pB HB.out) hb)
                      clear HO_4
                      clear BK380
                      clear HB
                      have HO_4 := n0_
                      have HO372 := n1_
                      have BK380 := n2_
                      have HB := n3_
                      clear n0_ n1_ n2_ n3_
                      clear hb ho32
                      refine hK.out _ _ (((HB.out.cell (World.block_lt_of_cell? w _ hw369_0)).trans hw369_0)) (fun hHeld => ?_)
                      clear hK K
                      refine norm_ (a' := ?_) ?_ ?_
                      rotate_left
                      · show Act.put _ (some 45) _ = _
                        simp only [Act.put, List.setIfInBounds_toArray, List.set_cons_zero, List.set_cons_succ, i64_w, i32_w]
                        rfl
                      refine one_ (i := 15) (N := some 54) #[true, true, true, true, true, true, true, true, true, true, true, true, true, true, true, true, false, true, false] rfl rfl (one_of HT_.out (by kernel_rfl)) (by decide) (fun K hK => ?_)
                      refine Kd.R_append_rows_step (Kd.int .u8) (w0 := w) w.heap.size (by rfl) (.tmp 45) (.tmp 53) 22 5 (.int .u8 0) 1 rfl Try.underlying22 info5 rfl (by decide) (by omega) v371 y370 y373 _ _ _ (fun _ => True) (fun _ => False) rfl rfl ?aO ?aR (fun _ _ h => h) (fun _ h => h.elim) ?aF ?aB ?aS ?aL ?_
                      (case aR => exact pC (Kd.C_below HR376.out HB.out))
                      (case aB => exact (by exact pB HB.out))
                      (case aF => exact (fun _ _ => trivial))
                      (case aO => exact (by exact pR HO372.out))
                      (case aS => exact (below_size (by exact pB HB.out)))
                      (case aL => have := LMc19.out; omega)
                      intro v378 w33 ho hb hg hat
                      rw [← Ny377.out] at ho
                      have n0_ := Aside0.mk (Kd.S_after (ok := (fun k_ => k_ ≠ gb380)) (by exact pS (Kd.S_mono HO_4.out (fun _ hk => ⟨hk.1.2, hk.2⟩))) hg hat)
                      have n1_ := Aside0.mk (blk_grown (g := gb380) (o := .cells #[.int .i64 0, .slice none 0 0] 43 (0, 0)) (by exact pK BK380.out) hg (Kd.R_ne HO372.out BK380.out (by decide)))
                      have n2_ := Aside0.mk (hb)
                      have n3_ := Aside0.mk (ho)
                      clear HO_4
                      clear BK380
                      clear HB
                      clear HO372
                      have HO_4 := n0_
                      have BK380 := n1_
                      have HB := n2_
                      have HO379 := n3_
                      clear n0_ n1_ n2_ n3_
                      clear ho hb hg hat
                      obtain ⟨Ao34, co34, eo34⟩ := Kd.R_slice HO379.out
                      (first | subst eo34 | (injection eo34 with f1_ f2_ f3_; have f4_ := f1_.symm; have f5_ := f3_.symm; clear f1_ f2_ f3_; subst f4_; subst f5_))
                      refine hK.out _ _ (((HB.out.cell (World.block_lt_of_cell? w _ hw369_0)).trans hw369_0)) (fun hHeld => ?_)
                      clear hK K
                      refine norm_ (a' := ?_) ?_ ?_
                      rotate_left
                      · show Act.put _ (some 54) _ = _
                        simp only [Act.put, List.setIfInBounds_toArray, List.set_cons_zero, List.set_cons_succ, i64_w, i32_w]
                        rfl
                      refine pure_ (i := 16) (N := some 55) (v := ?_) (a' := ?_) #[true, true, true, true, true, true, true, true, true, true, true, true, true, true, true, true, true, true, false] rfl rfl (any_of HT_.out (by kernel_rfl)) (fun _ _ _ h => h) (Or.inl ⟨by rfl, ?_⟩) ?_ ?_
                      rotate_left
                      · intro w'
                        go_simp
                        with_reducible rfl
                      rotate_left
                      · simp only [Act.put, List.setIfInBounds_toArray, List.set_cons_zero, List.set_cons_succ, i64_w, i32_w]
                        rfl
                      exact norm_ (by simp only [putAll, Act.put, List.setIfInBounds_toArray, List.set_cons_zero, List.set_cons_succ]) (hCont (v371, .slice Ao34 y377.length co34, gb380) _ ⟨hHeld, (by exact pR HO379.out), (by exact pS (Kd.S_mono HO_4.out (fun _ hk => ⟨hk.2, hk.1⟩))), (by exact pK BK380.out), GW380.out, GE380.out, (by exact pB HB.out)⟩)
                  rintro ⟨v371, v378, gb380⟩ w35 ⟨hS_, h0_, h1_, h2_, h3_, h4_, h5_⟩
                  have n0_ : Aside0 (Kd.R (Kd.int .u8) 5 w35 w.heap.size (fun _ => True) v378 y377) := ⟨h0_⟩
                  have n1_ : Aside0 (Kd.S k43 43 w35 w.heap.size (fun k_ => some k_ ≠ (v378 : Value).ownBlock ∧ k_ ≠ gb380) u4 x4_1) := ⟨h1_⟩
                  have n2_ : Aside0 (w35.heap[gb380]? = some (.cells #[.int .i64 0, .slice none 0 0] 43 (0, 0))) := ⟨h2_⟩
                  have n3_ : Aside0 (w.heap.size ≤ gb380) := ⟨h3_⟩
                  have n4_ : Aside0 (w.heap.size ≤ gb380) := ⟨h4_⟩
                  have n5_ : Aside0 (Below w.heap.size w w35) := ⟨h5_⟩
                  clear HO_4
                  clear HB
                  clear h0_ h1_ h2_ h3_ h4_ h5_
                  have HO379 := n0_
                  have HO_4 := n1_
                  have BK380 := n2_
                  have GW380 := n3_
                  have GE380 := n4_
                  have HB := n5_
                  clear n0_ n1_ n2_ n3_ n4_ n5_
                  have hHeld : w35.cell? (ad367.add ((ji12)).toNat) = some (.int .u8 (rd l0 (ji12))) := hS_
                  obtain ⟨Ao36, co36, eo36⟩ := Kd.R_slice HO379.out
                  (first | subst eo36 | (injection eo36 with f1_ f2_ f3_; have f4_ := f1_.symm; have f5_ := f3_.symm; clear f1_ f2_ f3_; subst f4_; subst f5_))
                  refine norm_ (a' := ?_) ?_ ?_
                  rotate_left
                  · simp only [putAll, Act.put, List.setIfInBounds_toArray, List.set_cons_zero, List.set_cons_succ]
                    rfl
                  refine one_ (i := 18) (N := none) #[true, true, true, true, true, true, true, true, true, true, true, true, true, true, true, true, true, true, true] rfl rfl (one_of HT_.out (by kernel_rfl)) (by decide) (fun K hK => ?_)
                  have hs37 : w35.cell? ⟨gb380, 0, none⟩ = some (.int .i64 0) := (blk_cell BK380.out 0).trans rfl
                  have hfs37 := blk_frozen BK380.out 0
                  have hs38 : w35.cell? ⟨gb380, 1, none⟩ = some (.slice none 0 0) := (blk_cell BK380.out 1).trans rfl
                  have hfs38 := blk_frozen BK380.out 1
                  refine skip_ (w1 := ?_) (by rfl) rfl ?_ ?_
                  rotate_left
                  · go_simp
                    rfl
                  refine hK.out _ _ (((cell_far (p := ⟨gb380, _, none⟩) (by first | exact Nat.ne_of_lt (Nat.lt_of_lt_of_le (by have := World.block_lt_of_cell? _ _ hw369_0; first | rwa [add_block] at this | exact this) GW380.out) | (rw [add_block]; exact Nat.ne_of_lt (Nat.lt_of_lt_of_le (by have := World.block_lt_of_cell? _ _ hw369_0; first | rwa [add_block] at this | exact this) GW380.out)) | (show (Addr.add _ _).block ≠ _; rw [add_block]; exact Nat.ne_of_lt (Nat.lt_of_lt_of_le (by have := World.block_lt_of_cell? _ _ hw369_0; first | rwa [add_block] at this | exact this) GW380.out)) | (dsimp only; exact Nat.ne_of_lt (Nat.lt_of_lt_of_le (by have := World.block_lt_of_cell? _ _ hw369_0; first | rwa [add_block] at this | exact this) GW380.out))) _).trans (((cell_far (p := ⟨gb380, _, none⟩) (by first | exact Nat.ne_of_lt (Nat.lt_of_lt_of_le (by have := World.block_lt_of_cell? _ _ hw369_0; first | rwa [add_block] at this | exact this) GW380.out) | (rw [add_block]; exact Nat.ne_of_lt (Nat.lt_of_lt_of_le (by have := World.block_lt_of_cell? _ _ hw369_0; first | rwa [add_block] at this | exact this) GW380.out)) | (show (Addr.add _ _).block ≠ _; rw [add_block]; exact Nat.ne_of_lt (Nat.lt_of_lt_of_le (by have := World.block_lt_of_cell? _ _ hw369_0; first | rwa [add_block] at this | exact this) GW380.out)) | (dsimp only; exact Nat.ne_of_lt (Nat.lt_of_lt_of_le (by have := World.block_lt_of_cell? _ _ hw369_0; first | rwa [add_block] at this | exact this) GW380.out))) _).trans (hHeld))))) (fun hHeld => ?_)
                  clear hK K
                  refine done_ (done_of HT_.out (by kernel_rfl)) ?_
                  have hcz39_0 : w35.cell? ⟨gb380, 0, none⟩ = some (.int .i64 0) := (blk_cell BK380.out 0).trans rfl
                  have hcz39_1 : w35.cell? ⟨gb380, 1, none⟩ = some (.slice none 0 0) := (blk_cell BK380.out 1).trans rfl
                  have hfz39_0 := blk_frozen BK380.out 0
                  have hfz39_1 := blk_frozen BK380.out 1
                  try go_wp2_with (first | ((with_reducible refine gate_callee (f := 29) rfl ?_); refine goesL_ (some 58) rfl rfl Try.func29 (by kernel_rfl) rfl #[.agg #[.int .i64 (wrap64 (rd l0 (ji12))), .slice Ao36 y377.length co36]] rfl (by (try simp only [List.map_toArray, List.map_cons, List.map_nil]); first | done | (simp only [hji12]; rfl) | rfl | (simp only [List.length_drop, List.length_take]; rfl)) ?_; (with_reducible refine (customsref33_Encode.calls kj7 (wrap64 (rd l0 (ji12))) _ _ y377 t381 t384 _ ?side1 ?side2 A20.out).mono ?_); (case side1 => refine (Kd.R_reads' (e := 5) (base := w.heap.size) (ok := fun k_ => True) (n := y377.length) (c := co36) ?_).2.2; exact (by (with_reducible repeat (first | apply Kd.R_alloc | apply Kd.R_drewN | apply Kd.R_drew)); exact (Kd.R_mono (Kd.R_far (p := ⟨gb380, 1, none⟩) (Kd.R_far (p := ⟨gb380, 0, none⟩) (Kd.R_types HO379.out BK380.out (by decide)) (fun _ hk => hk.2) (.int .i64 (wrap64 (rd l0 (ji12))))) (fun _ hk => hk.2) (.slice Ao36 y377.length co36)) (fun _ h_ => h_.1)))); (case side2 => exact (Kd.R_reads' HO379.out).2.1); rintro e w40 ⟨v382, rfl, ho0, hb⟩; refine ⟨_, rfl, ?_⟩; have n0_ := Aside0.mk (Kd.S_elder' (by (with_reducible repeat (first | apply Kd.S_alloc | apply Kd.S_drewN | apply Kd.S_drew)); exact (Kd.S_mono (Kd.S_far (p := ⟨gb380, 1, none⟩) (Kd.S_far (p := ⟨gb380, 0, none⟩) (Kd.S_mono HO_4.out (fun k_ hk => (⟨hk, hk.2⟩ : _ ∧ k_ ≠ gb380))) (fun _ hk => hk.2) (.int .i64 (wrap64 (rd l0 (ji12))))) (fun _ hk => hk.2) (.slice Ao36 y377.length co36)) (fun _ h_ => h_.1))) (Kd.R_base ho0) hb); have n1_ := Aside0.mk (Kd.R_elder' (by (with_reducible repeat (first | apply Kd.R_alloc | apply Kd.R_drewN | apply Kd.R_drew)); exact (Kd.R_mono (Kd.R_far (p := ⟨gb380, 1, none⟩) (Kd.R_far (p := ⟨gb380, 0, none⟩) (Kd.R_types HO379.out BK380.out (by decide)) (fun _ hk => hk.2) (.int .i64 (wrap64 (rd l0 (ji12))))) (fun _ hk => hk.2) (.slice Ao36 y377.length co36)) (fun _ h_ => h_.1))) (Kd.R_base ho0) hb); have n2_ := Aside0.mk (Kd.R_lower (Kd.R_new' ho0 (Kd.R_lt (by (with_reducible repeat (first | apply Kd.R_alloc | apply Kd.R_drewN | apply Kd.R_drew)); exact (Kd.R_mono (Kd.R_far (p := ⟨gb380, 1, none⟩) (Kd.R_far (p := ⟨gb380, 0, none⟩) (Kd.R_types HO379.out BK380.out (by decide)) (fun _ hk => hk.2) (.int .i64 (wrap64 (rd l0 (ji12))))) (fun _ hk => hk.2) (.slice Ao36 y377.length co36)) (fun _ h_ => h_.1))))) (below_size (by repeat (first | (with_reducible first | exact HB.out | apply below_alloc | apply pw_below_drewN | apply below_drew1 | refine below_set ?_ GE380.out) | exact HB.out)))); have n3_ := Aside0.mk (blk_below (g := gb380) (o := .cells #[.int .i64 (wrap64 (rd l0 (ji12))), .slice Ao36 y377.length co36] 43 (0, 0)) (by (with_reducible repeat (first | refine blk_drewN ?_ _ | refine blk_drew ?_ | refine blk_alloc ?_ _)); refine blk_put (cs := #[.int .i64 (wrap64 (rd l0 (ji12))), .slice none 0 0]) ?_ 1 _ rfl; (with_reducible repeat (first | refine blk_drewN ?_ _ | refine blk_drew ?_ | refine blk_alloc ?_ _)); refine blk_put (cs := #[.int .i64 0, .slice none 0 0]) ?_ 0 _ rfl; (with_reducible repeat (first | refine blk_drewN ?_ _ | refine blk_drew ?_ | refine blk_alloc ?_ _)); exact BK380.out) hb); have n4_ := Aside0.mk (below_step (by repeat (first | (with_reducible first | exact HB.out | apply below_alloc | apply pw_below_drewN | apply below_drew1 | refine below_set ?_ GE380.out) | exact HB.out)) hb); clear HO_4; clear HO379; clear BK380; clear HB; have HO_4 := n0_; have HO379 := n1_; have HO383 := n2_; have BK380 := n3_; have HB := n4_; clear n0_ n1_ n2_ n3_ n4_; (try clear hb); (try clear hb2); (try clear hk); (try clear hi); (try clear ho0); have q41 : ((wrap64 ((wrap64 (x5_1 + 9)) + (wrap64 ((wrap64 ((wrap64 (rd l0 x5_1)) * 256)) + (wrap64 (rd l0 (ji5))))))) : Int) ≤ ((l0.length : Int) : Int) := of_decide_eq_true (by first | (with_reducible assumption) | assumption); obtain ⟨i041, hi041, _, hsz41, _⟩ := info_parts info5; have hroom41 : l0.length ≤ c0 := HC0.out; have hC41 : Kd.C (Kd.int .u8) _ (some ad367) l0.length l0 := HR0.out; have ql41 : (x5_1 : Int) ≤ ((wrap64 ((wrap64 (x5_1 + 9)) + (wrap64 ((wrap64 ((wrap64 (rd l0 x5_1)) * 256)) + (wrap64 (rd l0 (ji5))))))) : Int) := of_decide_eq_true (by first | (with_reducible assumption) | assumption); have q041 : (0 : Int) ≤ (x5_1 : Int) := of_decide_eq_true (by first | (with_reducible assumption) | assumption); have hcut41 := cut_mid (P := Try.prog) 22 5 .i64 .i64 Try.underlying22 hi041 1 hsz41 (some ad367) l0.length c0 x5_1 (wrap64 ((wrap64 (x5_1 + 9)) + (wrap64 ((wrap64 ((wrap64 (rd l0 x5_1)) * 256)) + (wrap64 (rd l0 (ji5))))))) q041 ql41 q41 hroom41; have hr41 := Kd.C_mid (lo := (x5_1 : Int).toNat) (hi := ((wrap64 ((wrap64 (x5_1 + 9)) + (wrap64 ((wrap64 ((wrap64 (rd l0 x5_1)) * 256)) + (wrap64 (rd l0 (ji5))))))) : Int).toNat) (c := c0) hC41 (by omega) (by omega) hroom41; obtain ⟨A41, hA41⟩ : ∃ A1, A1 = (if c0 = (x5_1 : Int).toNat then (some ad367) else ((some ad367) : Option Addr).map (·.add ((x5_1 : Int).toNat * 1))) := ⟨_, rfl⟩; obtain ⟨c41, hc41⟩ : ∃ c1, c1 = c0 - (x5_1 : Int).toNat := ⟨_, rfl⟩; have hy41 : y385.length = ((wrap64 ((wrap64 (x5_1 + 9)) + (wrap64 ((wrap64 ((wrap64 (rd l0 x5_1)) * 256)) + (wrap64 (rd l0 (ji5))))))) : Int).toNat - (x5_1 : Int).toNat := (by rw [Ny385.out, List.length_drop, List.length_take] <;> omega); rw [show ((l0).take ((wrap64 ((wrap64 (x5_1 + 9)) + (wrap64 ((wrap64 ((wrap64 (rd l0 x5_1)) * 256)) + (wrap64 (rd l0 (ji5))))))) : Int).toNat).drop (x5_1 : Int).toNat = y385 from Ny385.out.symm] at hr41; replace hr41 : Kd.C (Kd.int .u8) _ A41 y385.length y385 := (by rw [hA41]; exact hr41); rw [← hy41, ← hA41, ← hc41] at hcut41; have HR388 := Aside0.mk hr41; have HC388 := Aside0.mk (show y385.length ≤ c41 from by rw [hy41, hc41]; exact Nat.sub_le_sub_right (Nat.le_trans (by omega) hroom41) _); clear hr41 hC41 hroom41 hi041 hsz41 hc41; have KY41 := Aside0.mk hy41; have KA41 := Aside0.mk hA41; clear hy41 hA41; replace q41 := eq_true q41; obtain ⟨Ao42, co42, eo42⟩ := Kd.R_slice HO383.out; subst eo42) | (go_at_call 17; (with_reducible refine (customsref33_SameBytes.calls _ _ t381 _ _ y385 true _ ?side1 ?side2 ?side3 ?side4 A25.out).mono ?_); (case side1 => exact pC (Kd.R_reads' HO383.out).2.2); (case side2 => exact (Kd.R_reads' HO383.out).2.1); (case side3 => exact pC (Kd.C_below HR388.out HB.out)); (case side4 => exact HC388.out); rintro e w' ⟨rfl, ⟨nd, rfl⟩⟩; have hcz43_0 : w40.cell? ⟨gb380, 0, none⟩ = some (.int .i64 (wrap64 (rd l0 (ji12)))) := (blk_cell BK380.out 0).trans rfl; have hcz43_1 : w40.cell? ⟨gb380, 1, none⟩ = some (.slice Ao36 y377.length co36) := (blk_cell BK380.out 1).trans rfl; have hfz43_0 := blk_frozen BK380.out 0; have hfz43_1 := blk_frozen BK380.out 1) | ((with_reducible refine gate_builtin (b := .append) (xs := #[.tmp 75, .tmp 77]) rfl ?_); (try (refine gate_guard (by rfl) ?_; dsimp only)); at_builtin; refine Kd.S_append k43 (w0 := w) w.heap.size rfl (.tmp 75) (.tmp 77) 46 43 (.agg #[(.int .i64 0), (.slice none 0 0)]) 32 rfl Try.underlying46 info43 rfl (by decide) (by omega) u4 x4_1 (⟨wrap64 (rd l0 (ji12)), y377⟩ : S43) [.int .i64 (wrap64 (rd l0 (ji12))), .slice Ao36 y377.length co36] (fun k_ => k_ ≠ gb380) (fun k_ => some k_ = (.slice Ao36 y377.length co36 : Value).ownBlock) rfl rfl ?aP (fun k_ hk_ => ((Kd.R_mono (ok' := fun k_ => ((fun k_ => k_ ≠ gb380)) k_ ∧ some k_ ≠ (u4 : Value).ownBlock) (Kd.R_types (Kd.R_apart' (HO379.out) (Kd.S_typed HO_4.out) (by decide)) BK380.out (by decide)) (fun k_ hk => ⟨hk.2, hk.1.2⟩))).1 k_ hk_.symm) ?aF ?aO ?aB ?aS ?aL ?_; (case aP => exact k43_mkM _ _ _ (⟨wrap64 (rd l0 (ji12)), y377⟩ : S43) (Kd.R_mono (Kd.R_tight rfl (Kd.R_mono (ok' := fun k_ => ((fun k_ => k_ ≠ gb380)) k_ ∧ some k_ ≠ (u4 : Value).ownBlock) (Kd.R_types (Kd.R_apart' (HO379.out) (Kd.S_typed HO_4.out) (by decide)) BK380.out (by decide)) (fun k_ hk => ⟨hk.2, hk.1.2⟩))) (fun _ h_ => h_))); (case aB => exact (by exact pB HB.out)); (case aF => exact (fun k_ hk => Kd.freshB (g := gb380) (o := .cells #[.int .i64 (wrap64 (rd l0 (ji12))), .slice Ao36 y377.length co36] 43 (0, 0)) (by exact pK BK380.out) k_ hk)); (case aO => exact (by (with_reducible repeat (first | apply Kd.S_alloc | apply Kd.S_drewN | apply Kd.S_drew)); exact Kd.S_mono HO_4.out (fun k_ hk => ⟨hk.1.2, fun e_ => hk.1.1 e_⟩))); (case aS => exact (below_size (by exact pB HB.out))); (case aL => have := LMc27.out; omega); intro v391 w44 ho hb hg hat; rw [← Ny390.out] at ho; have n0_ := Aside0.mk (blk_grown (g := gb380) (o := .cells #[.int .i64 (wrap64 (rd l0 (ji12))), .slice Ao36 y377.length co36] 43 (0, 0)) (by exact pK BK380.out) hg (Kd.S_away HO_4.out (fun _ hk => hk.1.2))); have n1_ := Aside0.mk (hb); have n2_ := Aside0.mk (ho); clear BK380; clear HB; clear HO_4; clear HO379; have BK380 := n0_; have HB := n1_; have HO392 := n2_; clear n0_ n1_ n2_; clear ho hb hg hat))
                  go_roundg kj7
                  case measure => have := HK1.out; have := HJ7.out; omega
                  case rel => exact ⟨(y390), (wrap64 ((wrap64 (x5_1 + 9)) + (wrap64 ((wrap64 ((wrap64 (rd l0 x5_1)) * 256)) + (wrap64 (rd l0 (ji5))))))), (by first | rfl | (simp; done) | (simp only [← hji5] <;> (first | rfl | simp)) | (simp [*]; done)), H', ⟨by have := HK1.out; have := HJ7.out; omega⟩, ⟨by exact pS (Kd.S_mono HO392.out (fun _ hk => trivial))⟩, ⟨by exact pB HB.out⟩⟩
                · replace c26 := Bool.eq_false_iff.mpr c26
                  subst c26
                  have H1 : (some (x4_1, x5_1)) = some (r1, r2) := by rw [if_neg (show ¬ (false = true) by decide)] at H; exact H
                  clear H
                  have H := H1
                  clear H1
                  simp only [Option.some.injEq, Prod.mk.injEq] at H
                  obtain ⟨rfl, rfl⟩ := H
                  try go_wp2
                  have n0_ := Aside0.mk (Kd.S_drew HO_4.out)
                  have n1_ := Aside0.mk (below_drew1 HB.out)
                  clear HO_4
                  clear HB
                  have HO_4 := n0_
                  have HB := n1_
                  clear n0_ n1_
                  have p369 : 0 ≤ ((ji12) : Int) := of_decide_eq_true (by first | (with_reducible assumption) | assumption)
                  have q369 : (ji12) < (l0.length : Int) := of_decide_eq_true (by first | (with_reducible assumption) | assumption)
                  obtain ⟨ad369, e369, hx369_0⟩ := Kd.at_int HR0.out (ji12) p369 q369
                  have hw369_0 := hx369_0
                  obtain rfl : ad367 = ad369 := (by injection e369)
                  replace hx369_0 := (HB.out.cell (World.block_lt_of_cell? w _ hx369_0)).trans hx369_0
                  replace p369 := eq_true p369
                  replace q369 := eq_true q369
                  have q46 : ((wrap64 ((ji15) + (wrap64 ((wrap64 ((wrap64 (rd l0 x5_1)) * 256)) + (wrap64 (rd l0 (ji5))))))) : Int) ≤ ((l0.length : Int) : Int) := of_decide_eq_true (by first | (with_reducible assumption) | assumption)
                  obtain ⟨i046, hi046, _, hsz46, _⟩ := info_parts info5
                  have hroom46 : l0.length ≤ c0 := HC0.out
                  have hC46 : Kd.C (Kd.int .u8) _ (some ad367) l0.length l0 := HR0.out
                  have ql46 : ((ji15) : Int) ≤ ((wrap64 ((ji15) + (wrap64 ((wrap64 ((wrap64 (rd l0 x5_1)) * 256)) + (wrap64 (rd l0 (ji5))))))) : Int) := of_decide_eq_true (by first | (with_reducible assumption) | assumption)
                  have q046 : (0 : Int) ≤ ((ji15) : Int) := of_decide_eq_true (by first | (with_reducible assumption) | assumption)
                  have hcut46 := cut_mid (P := Try.prog) 22 5 .i64 .i64 Try.underlying22 hi046 1 hsz46 (some ad367) l0.length c0 (ji15) (wrap64 ((ji15) + (wrap64 ((wrap64 ((wrap64 (rd l0 x5_1)) * 256)) + (wrap64 (rd l0 (ji5))))))) q046 ql46 q46 hroom46
                  have hr46 := Kd.C_mid (lo := ((ji15) : Int).toNat) (hi := ((wrap64 ((ji15) + (wrap64 ((wrap64 ((wrap64 (rd l0 x5_1)) * 256)) + (wrap64 (rd l0 (ji5))))))) : Int).toNat) (c := c0) hC46 (by omega) (by omega) hroom46
                  obtain ⟨A46, hA46⟩ : ∃ A1, A1 = (if c0 = ((ji15) : Int).toNat then (some ad367) else ((some ad367) : Option Addr).map (·.add (((ji15) : Int).toNat * 1))) := ⟨_, rfl⟩
                  obtain ⟨c46, hc46⟩ : ∃ c1, c1 = c0 - ((ji15) : Int).toNat := ⟨_, rfl⟩
                  have hy46 : y373.length = ((wrap64 ((ji15) + (wrap64 ((wrap64 ((wrap64 (rd l0 x5_1)) * 256)) + (wrap64 (rd l0 (ji5))))))) : Int).toNat - ((ji15) : Int).toNat := (by rw [Ny373.out, List.length_drop, List.length_take] <;> omega)
                  rw [show ((l0).take ((wrap64 ((ji15) + (wrap64 ((wrap64 ((wrap64 (rd l0 x5_1)) * 256)) + (wrap64 (rd l0 (ji5))))))) : Int).toNat).drop ((ji15) : Int).toNat = y373 from Ny373.out.symm] at hr46
                  replace hr46 : Kd.C (Kd.int .u8) _ A46 y373.length y373 := (by rw [hA46]; exact hr46)
                  rw [← hy46, ← hA46, ← hc46] at hcut46
                  have HR376 := Aside0.mk hr46
                  have HC376 := Aside0.mk (show y373.length ≤ c46 from by rw [hy46, hc46]; exact Nat.sub_le_sub_right (Nat.le_trans (by omega) hroom46) _)
                  clear hr46 hC46 hroom46 hi046 hsz46 hc46
                  have KY46 := Aside0.mk hy46
                  have KA46 := Aside0.mk hA46
                  clear hy46 hA46
                  replace q46 := eq_true q46
                  refine start_ (n := 19) (S := fun w' => w'.cell? (ad367.add ((ji12)).toNat) = some (.int .u8 (rd l0 (ji12)))) (ds := []) #[false, false, false, false, false, false, false, false, false, false, false, false, false, false, false, false, false, false, false] (by kernel_rfl) rfl rfl (((HB.out.cell (World.block_lt_of_cell? w _ hw369_0)).trans hw369_0)) (fun hHeld => ?_); refine with_tabW customsref33_Scan.tab6 customsref33_Scan.bits6 (fun HT_ HW_ => ?_)
                  generalize wc.drew = w45 at HO_4 HB HR376 hx369_0 hHeld ⊢
                  refine pure_ (i := 0) (N := some 39) (v := ?_) (a' := ?_) #[true, false, false, false, false, false, false, false, false, false, false, false, false, false, false, false, false, false, false] rfl rfl (any_of HT_.out (by kernel_rfl)) (fun _ _ _ h => h) (Or.inl ⟨by rfl, ?_⟩) ?_ ?_
                  rotate_left
                  · intro w'
                    go_simp
                    with_reducible rfl
                  rotate_left
                  · simp only [Act.put, List.setIfInBounds_toArray, List.set_cons_zero, List.set_cons_succ, i64_w, i32_w]
                    rfl
                  refine pure_ (i := 1) (N := some 40) (v := ?_) (a' := ?_) #[true, true, false, false, false, false, false, false, false, false, false, false, false, false, false, false, false, false, false] rfl rfl (any_of HT_.out (by kernel_rfl)) (fun _ _ _ h => h) (Or.inl ⟨by rfl, ?_⟩) ?_ ?_
                  rotate_left
                  · intro w'
                    go_simp
                    with_reducible rfl
                  rotate_left
                  · simp only [Act.put, List.setIfInBounds_toArray, List.set_cons_zero, List.set_cons_succ, i64_w, i32_w]
                    rfl
                  refine pure_ (i := 2) (N := some 41) (v := ?_) (a' := ?_) #[true, true, true, false, false, false, false, false, false, false, false, false, false, false, false, false, false, false, false] rfl rfl (any_of HT_.out (by kernel_rfl)) (fun _ _ _ h => h) (Or.inl ⟨by rfl, ?_⟩) ?_ ?_
                  rotate_left
                  · intro w'
                    go_simp
                    with_reducible rfl
                  rotate_left
                  · simp only [Act.put, List.setIfInBounds_toArray, List.set_cons_zero, List.set_cons_succ, i64_w, i32_w]
                    rfl
                  refine pure_ (i := 3) (N := some 42) (v := ?_) (a' := ?_) #[true, true, true, true, false, false, false, false, false, false, false, false, false, false, false, false, false, false, false] rfl rfl (any_of HT_.out (by kernel_rfl)) (fun _ _ _ h => h) (Or.inl ⟨by rfl, ?_⟩) ?_ ?_
                  rotate_left
                  · intro w'
                    go_simp
                    with_reducible rfl
                  rotate_left
                  · simp only [Act.put, List.setIfInBounds_toArray, List.set_cons_zero, List.set_cons_succ, i64_w, i32_w]
                    rfl
                  refine pure_ (i := 7) (N := some 46) (v := ?_) (a' := ?_) #[true, true, true, true, false, false, false, true, false, false, false, false, false, false, false, false, false, false, false] rfl rfl (any_of HT_.out (by kernel_rfl)) (fun _ _ _ h => h) (Or.inl ⟨by rfl, ?_⟩) ?_ ?_
                  rotate_left
                  · intro w'
                    go_simp
                    with_reducible rfl
                  rotate_left
                  · simp only [Act.put, List.setIfInBounds_toArray, List.set_cons_zero, List.set_cons_succ, i64_w, i32_w]
                    rfl
                  refine pure_ (i := 8) (N := some 47) (v := ?_) (a' := ?_) #[true, true, true, true, false, false, false, true, true, false, false, false, false, false, false, false, false, false, false] rfl rfl (any_of HT_.out (by kernel_rfl)) (fun _ _ _ h => h) (Or.inl ⟨by rfl, ?_⟩) ?_ ?_
                  rotate_left
                  · intro w'
                    go_simp
                    with_reducible rfl
                  rotate_left
                  · simp only [Act.put, List.setIfInBounds_toArray, List.set_cons_zero, List.set_cons_succ, i64_w, i32_w]
                    rfl
                  refine pure_ (i := 9) (N := some 48) (v := ?_) (a' := ?_) #[true, true, true, true, false, false, false, true, true, true, false, false, false, false, false, false, false, false, false] rfl rfl (any_of HT_.out (by kernel_rfl)) (fun _ _ _ h => h) (Or.inl ⟨by rfl, ?_⟩) ?_ ?_
                  rotate_left
                  · intro w'
                    go_simp
                    with_reducible rfl
                  rotate_left
                  · simp only [Act.put, List.setIfInBounds_toArray, List.set_cons_zero, List.set_cons_succ, i64_w, i32_w]
                    rfl
                  refine pure_ (i := 10) (N := some 49) (v := ?_) (a' := ?_) #[true, true, true, true, false, false, false, true, true, true, true, false, false, false, false, false, false, false, false] rfl rfl (any_of HT_.out (by kernel_rfl)) (fun _ _ _ h => h) (Or.inl ⟨by rfl, ?_⟩) ?_ ?_
                  rotate_left
                  · intro w'
                    go_simp
                    with_reducible rfl
                  rotate_left
                  · simp only [Act.put, List.setIfInBounds_toArray, List.set_cons_zero, List.set_cons_succ, i64_w, i32_w]
                    rfl
                  refine pure_ (i := 11) (N := some 50) (v := ?_) (a' := ?_) #[true, true, true, true, false, false, false, true, true, true, true, true, false, false, false, false, false, false, false] rfl rfl (any_of HT_.out (by kernel_rfl)) (fun _ _ _ h => h) (Or.inl ⟨by rfl, ?_⟩) ?_ ?_
                  rotate_left
                  · intro w'
                    go_simp
                    with_reducible rfl
                  rotate_left
                  · simp only [Act.put, List.setIfInBounds_toArray, List.set_cons_zero, List.set_cons_succ, i64_w, i32_w]
                    rfl
                  refine pure_ (i := 12) (N := some 51) (v := ?_) (a' := ?_) #[true, true, true, true, false, false, false, true, true, true, true, true, true, false, false, false, false, false, false] rfl rfl (any_of HT_.out (by kernel_rfl)) (fun _ _ _ h => h) (Or.inl ⟨by rfl, ?_⟩) ?_ ?_
                  rotate_left
                  · intro w'
                    go_simp
                    with_reducible rfl
                  rotate_left
                  · simp only [Act.put, List.setIfInBounds_toArray, List.set_cons_zero, List.set_cons_succ, i64_w, i32_w]
                    rfl
                  refine pure_ (i := 13) (N := some 52) (v := ?_) (a' := ?_) #[true, true, true, true, false, false, false, true, true, true, true, true, true, true, false, false, false, false, false] rfl rfl (any_of HT_.out (by kernel_rfl)) (fun _ _ _ h => h) (Or.inl ⟨by rfl, ?_⟩) ?_ ?_
                  rotate_left
                  · intro w'
                    go_simp
                    with_reducible rfl
                  rotate_left
                  · simp only [Act.put, List.setIfInBounds_toArray, List.set_cons_zero, List.set_cons_succ, i64_w, i32_w]
                    rfl
                  refine pure_ (i := 14) (N := some 53) (v := ?_) (a' := ?_) #[true, true, true, true, false, false, false, true, true, true, true, true, true, true, true, false, false, false, false] rfl rfl (any_of HT_.out (by kernel_rfl)) (fun _ _ _ h => h) (Or.inl ⟨by rfl, ?_⟩) ?_ ?_
                  rotate_left
                  · intro w'
                    go_simp
                    with_reducible rfl
                  rotate_left
                  · simp only [Act.put, List.setIfInBounds_toArray, List.set_cons_zero, List.set_cons_succ, i64_w, i32_w]
                    rfl
                  refine take_ (i := 4) (N := some 43) (v := ?_) (a' := ?_) #[true, true, true, true, true, false, false, true, true, true, true, true, true, true, true, false, false, false, false] rfl rfl (take_ofW HT_.out HW_.out (by kernel_rfl)) (fun _ _ _ h => h) (Or.inl ⟨by rfl, ?_⟩) hHeld ?_ ?_
                  rotate_left
                  · intro w' s0
                    go_simp
                    with_reducible rfl
                  rotate_left
                  · simp only [Act.put, List.setIfInBounds_toArray, List.set_cons_zero, List.set_cons_succ, i64_w, i32_w]
                    rfl
                  refine pure_ (i := 5) (N := some 44) (v := ?_) (a' := ?_) #[true, true, true, true, true, true, false, true, true, true, true, true, true, true, true, false, false, false, false] rfl rfl (any_of HT_.out (by kernel_rfl)) (fun _ _ _ h => h) (Or.inl ⟨by rfl, ?_⟩) ?_ ?_
                  rotate_left
                  · intro w'
                    go_simp
                    with_reducible rfl
                  rotate_left
                  · simp only [Act.put, List.setIfInBounds_toArray, List.set_cons_zero, List.set_cons_succ, i64_w, i32_w]
                    rfl
                  refine join_ (σ := Value × Value × Nat) 1 #[true, true, true, true, true, true, true, true, true, true, true, true, true, true, true, true, true, true, false] (fun s_ => [(45, s_.1), (54, s_.2.1), (7, .pointer (some ⟨s_.2.2, 0, none⟩)), (55, .agg #[.int .i64 (wrap64 (rd l0 (ji12))), s_.2.1])]) (fun s_ w' => (w'.cell? (ad367.add ((ji12)).toNat) = some (.int .u8 (rd l0 (ji12)))) ∧ (Kd.R (Kd.int .u8) 5 w' w.heap.size (fun _ => True) s_.2.1 y377) ∧ (Kd.S k43 43 w' w.heap.size (fun k_ => some k_ ≠ (s_.2.1 : Value).ownBlock ∧ k_ ≠ s_.2.2) u4 x4_1) ∧ (w'.heap[s_.2.2]? = some (.cells #[.int .i64 0, .slice none 0 0] 43 (0, 0))) ∧ (w.heap.size ≤ s_.2.2) ∧ (w.heap.size ≤ s_.2.2) ∧ (Below w.heap.size w w')) ?_ ?_
                  rotate_left
                  · intro hCont
                    refine two_ (i := 6) (j := 17) (Ni := some 45) (Nj := some 7) #[true, true, true, true, true, true, true, true, true, true, true, true, true, true, true, false, false, false, false] #[true, true, true, true, true, true, false, true, true, true, true, true, true, true, true, false, false, true, false] rfl rfl rfl rfl (two_of HT_.out (by kernel_rfl)) (by decide) (by decide) (fun K hK => ?_) (fun K hK => ?_)
                    · skip
                      refine Kd.R_lit_step (Kd.int .u8) _ 5 ?hg (N := 45) ?hd (xs := ([] : List Int)) (inner := []) (ok := fun _ => True) (okp := fun _ => True) ?hr ?hp (fun _ hk => hk) trivial (Below.refl _ _) (Nat.le_refl _) (by simp) ?_; (case hd => rfl); (case hg => rfl); (case hr => first | (go_simp; done) | (go_simp; rfl)); (case hp => exact (Reps.none _ _))
                      intro v371 w47 ho48 hb hg_ hnew_
                      clear hg_ hnew_
                      (first | rw [← Ny370.out] at ho48 | (simp only [Int.reduceToNat] at ho48; rw [← Ny370.out] at ho48))
                      have n0_ := Aside0.mk (Kd.S_elder' (by exact pS HO_4.out) (Kd.R_base ho48) hb)
                      have n1_ := Aside0.mk (Kd.R_lower ho48 (below_size (by exact pB HB.out)))
                      have n2_ := Aside0.mk (below_step (by exact pB HB.out) hb)
                      clear HO_4
                      clear HB
                      have HO_4 := n0_
                      have HO372 := n1_
                      have HB := n2_
                      clear n0_ n1_ n2_
                      clear hb ho48
                      refine hK.out _ _ (((HB.out.cell (World.block_lt_of_cell? w _ hw369_0)).trans hw369_0)) (fun hHeld => ?_)
                      clear hK K
                      refine norm_ (a' := ?_) ?_ ?_
                      rotate_left
                      · show Act.put _ (some 45) _ = _
                        simp only [Act.put, List.setIfInBounds_toArray, List.set_cons_zero, List.set_cons_succ, i64_w, i32_w]
                        rfl
                      refine two_ (i := 15) (j := 17) (Ni := some 54) (Nj := some 7) #[true, true, true, true, true, true, true, true, true, true, true, true, true, true, true, true, false, false, false] #[true, true, true, true, true, true, true, true, true, true, true, true, true, true, true, false, false, true, false] rfl rfl rfl rfl (two_of HT_.out (by kernel_rfl)) (by decide) (by decide) (fun K hK => ?_) (fun K hK => ?_)
                      · skip
                        refine Kd.R_append_rows_step (Kd.int .u8) (w0 := w) w.heap.size (by rfl) (.tmp 45) (.tmp 53) 22 5 (.int .u8 0) 1 rfl Try.underlying22 info5 rfl (by decide) (by omega) v371 y370 y373 _ _ _ (fun _ => True) (fun _ => False) rfl rfl ?aO ?aR (fun _ _ h => h) (fun _ h => h.elim) ?aF ?aB ?aS ?aL ?_
                        (case aR => exact pC (Kd.C_below HR376.out HB.out))
                        (case aB => exact (by exact pB HB.out))
                        (case aF => exact (fun _ _ => trivial))
                        (case aO => exact (by exact pR HO372.out))
                        (case aS => exact (below_size (by exact pB HB.out)))
                        (case aL => have := LMc19.out; omega)
                        intro v378 w49 ho hb hg hat
                        rw [← Ny377.out] at ho
                        have n0_ := Aside0.mk (Kd.S_after (ok := (fun _ => True)) (by exact pS HO_4.out) hg hat)
                        have n1_ := Aside0.mk (hb)
                        have n2_ := Aside0.mk (ho)
                        clear HO_4
                        clear HB
                        clear HO372
                        have HO_4 := n0_
                        have HB := n1_
                        have HO379 := n2_
                        clear n0_ n1_ n2_
                        clear ho hb hg hat
                        obtain ⟨Ao50, co50, eo50⟩ := Kd.R_slice HO379.out
                        (first | subst eo50 | (injection eo50 with f1_ f2_ f3_; have f4_ := f1_.symm; have f5_ := f3_.symm; clear f1_ f2_ f3_; subst f4_; subst f5_))
                        refine hK.out _ _ (((HB.out.cell (World.block_lt_of_cell? w _ hw369_0)).trans hw369_0)) (fun hHeld => ?_)
                        clear hK K
                        refine norm_ (a' := ?_) ?_ ?_
                        rotate_left
                        · show Act.put _ (some 54) _ = _
                          simp only [Act.put, List.setIfInBounds_toArray, List.set_cons_zero, List.set_cons_succ, i64_w, i32_w]
                          rfl
                        refine pure_ (i := 16) (N := some 55) (v := ?_) (a' := ?_) #[true, true, true, true, true, true, true, true, true, true, true, true, true, true, true, true, true, false, false] rfl rfl (any_of HT_.out (by kernel_rfl)) (fun _ _ _ h => h) (Or.inl ⟨by rfl, ?_⟩) ?_ ?_
                        rotate_left
                        · intro w'
                          go_simp
                          with_reducible rfl
                        rotate_left
                        · simp only [Act.put, List.setIfInBounds_toArray, List.set_cons_zero, List.set_cons_succ, i64_w, i32_w]
                          rfl
                        refine one_ (i := 17) (N := some 7) #[true, true, true, true, true, true, true, true, true, true, true, true, true, true, true, true, true, true, false] rfl rfl (one_of HT_.out (by kernel_rfl)) (by decide) (fun K hK => ?_)
                        refine box_step ?hg (N := 7) ?hd (cs := #[.int .i64 0, .slice none 0 0]) (t := 43) ?hr ?_; (case hd => rfl); (case hg => rfl); (case hr => first | (go_simp; done) | (go_simp; rfl))
                        intro gb380 hg w51 hbox hb
                        have n0_ := Aside0.mk (Kd.S_below (Kd.S_elderB (by exact pS HO_4.out) gb380 (Nat.le_of_eq hg.symm)) hb)
                        have n1_ := Aside0.mk (Kd.R_below (by exact pR HO379.out) hb)
                        have n2_ := Aside0.mk (below_step (by exact pB HB.out) hb)
                        have n3_ := Aside0.mk (hbox)
                        have n4_ := Aside0.mk ((by rw [hg]; exact (below_size (by exact pB HB.out)) : w.heap.size ≤ gb380))
                        have n5_ := Aside0.mk ((by rw [hg]; exact (below_size (by exact pB HB.out)) : w.heap.size ≤ gb380))
                        clear HO_4
                        clear HO379
                        clear HB
                        have HO_4 := n0_
                        have HO379 := n1_
                        have HB := n2_
                        have BK380 := n3_
                        have GW380 := n4_
                        have GE380 := n5_
                        clear n0_ n1_ n2_ n3_ n4_ n5_
                        clear hb hbox hg
                        refine hK.out _ _ (((HB.out.cell (World.block_lt_of_cell? w _ hw369_0)).trans hw369_0)) (fun hHeld => ?_)
                        clear hK K
                        refine norm_ (a' := ?_) ?_ ?_
                        rotate_left
                        · show Act.put _ (some 7) _ = _
                          simp only [Act.put, List.setIfInBounds_toArray, List.set_cons_zero, List.set_cons_succ, i64_w, i32_w]
                          rfl
                        exact norm_ (by simp only [putAll, Act.put, List.setIfInBounds_toArray, List.set_cons_zero, List.set_cons_succ]) (hCont (v371, .slice Ao50 y377.length co50, gb380) _ ⟨hHeld, (by exact pR HO379.out), (by exact pS (Kd.S_mono HO_4.out (fun _ hk => ⟨hk.1.2, hk.2⟩))), (by exact pK BK380.out), GW380.out, GE380.out, (by exact pB HB.out)⟩)
                      · skip
                        refine box_step ?hg (N := 7) ?hd (cs := #[.int .i64 0, .slice none 0 0]) (t := 43) ?hr ?_; (case hd => rfl); (case hg => rfl); (case hr => first | (go_simp; done) | (go_simp; rfl))
                        intro gb380 hg w49 hbox hb
                        have n0_ := Aside0.mk (Kd.S_below (Kd.S_elderB (by exact pS HO_4.out) gb380 (Nat.le_of_eq hg.symm)) hb)
                        have n1_ := Aside0.mk (Kd.R_below (by exact pR HO372.out) hb)
                        have n2_ := Aside0.mk (below_step (by exact pB HB.out) hb)
                        have n3_ := Aside0.mk (hbox)
                        have n4_ := Aside0.mk ((by rw [hg]; exact (below_size (by exact pB HB.out)) : w.heap.size ≤ gb380))
                        have n5_ := Aside0.mk ((by rw [hg]; exact (below_size (by exact pB HB.out)) : w.heap.size ≤ gb380))
                        clear HO_4
                        clear HO372
                        clear HB
                        have HO_4 := n0_
                        have HO372 := n1_
                        have HB := n2_
                        have BK380 := n3_
                        have GW380 := n4_
                        have GE380 := n5_
                        clear n0_ n1_ n2_ n3_ n4_ n5_
                        clear hb hbox hg
                        refine hK.out _ _ (((HB.out.cell (World.block_lt_of_cell? w _ hw369_0)).trans hw369_0)) (fun hHeld => ?_)
                        clear hK K
                        refine norm_ (a' := ?_) ?_ ?_
                        rotate_left
                        · show Act.put _ (some 7) _ = _
                          simp only [Act.put, List.setIfInBounds_toArray, List.set_cons_zero, List.set_cons_succ, i64_w, i32_w]
                          rfl
                        refine one_ (i := 15) (N := some 54) #[true, true, true, true, true, true, true, true, true, true, true, true, true, true, true, true, false, true, false] rfl rfl (one_of HT_.out (by kernel_rfl)) (by decide) (fun K hK => ?_)
                        refine Kd.R_append_rows_step (Kd.int .u8) (w0 := w) w.heap.size (by rfl) (.tmp 45) (.tmp 53) 22 5 (.int .u8 0) 1 rfl Try.underlying22 info5 rfl (by decide) (by omega) v371 y370 y373 _ _ _ (fun _ => True) (fun _ => False) rfl rfl ?aO ?aR (fun _ _ h => h) (fun _ h => h.elim) ?aF ?aB ?aS ?aL ?_
                        (case aR => exact pC (Kd.C_below HR376.out HB.out))
                        (case aB => exact (by exact pB HB.out))
                        (case aF => exact (fun _ _ => trivial))
                        (case aO => exact (by exact pR HO372.out))
                        (case aS => exact (below_size (by exact pB HB.out)))
                        (case aL => have := LMc19.out; omega)
                        intro v378 w50 ho hb hg hat
                        rw [← Ny377.out] at ho
                        have n0_ := Aside0.mk (Kd.S_after (ok := (fun k_ => k_ ≠ gb380)) (by exact pS (Kd.S_mono HO_4.out (fun _ hk => ⟨hk.2, hk.1.2⟩))) hg hat)
                        have n1_ := Aside0.mk (blk_grown (g := gb380) (o := .cells #[.int .i64 0, .slice none 0 0] 43 (0, 0)) (by exact pK BK380.out) hg (Kd.R_ne HO372.out BK380.out (by decide)))
                        have n2_ := Aside0.mk (hb)
                        have n3_ := Aside0.mk (ho)
                        clear HO_4
                        clear BK380
                        clear HB
                        clear HO372
                        have HO_4 := n0_
                        have BK380 := n1_
                        have HB := n2_
                        have HO379 := n3_
                        clear n0_ n1_ n2_ n3_
                        clear ho hb hg hat
                        obtain ⟨Ao51, co51, eo51⟩ := Kd.R_slice HO379.out
                        (first | subst eo51 | (injection eo51 with f1_ f2_ f3_; have f4_ := f1_.symm; have f5_ := f3_.symm; clear f1_ f2_ f3_; subst f4_; subst f5_))
                        refine hK.out _ _ (((HB.out.cell (World.block_lt_of_cell? w _ hw369_0)).trans hw369_0)) (fun hHeld => ?_)
                        clear hK K
                        refine norm_ (a' := ?_) ?_ ?_
                        rotate_left
                        · show Act.put _ (some 54) _ = _
                          simp only [Act.put, List.setIfInBounds_toArray, List.set_cons_zero, List.set_cons_succ, i64_w, i32_w]
                          rfl
                        refine pure_ (i := 16) (N := some 55) (v := ?_) (a' := ?_) #[true, true, true, true, true, true, true, true, true, true, true, true, true, true, true, true, true, true, false] rfl rfl (any_of HT_.out (by kernel_rfl)) (fun _ _ _ h => h) (Or.inl ⟨by rfl, ?_⟩) ?_ ?_
                        rotate_left
                        · intro w'
                          go_simp
                          with_reducible rfl
                        rotate_left
                        · simp only [Act.put, List.setIfInBounds_toArray, List.set_cons_zero, List.set_cons_succ, i64_w, i32_w]
                          rfl
                        exact norm_ (by simp only [putAll, Act.put, List.setIfInBounds_toArray, List.set_cons_zero, List.set_cons_succ]) (hCont (v371, .slice Ao51 y377.length co51, gb380) _ ⟨hHeld, (by exact pR HO379.out), (by exact pS (Kd.S_mono HO_4.out (fun _ hk => ⟨hk.2, hk.1⟩))), (by exact pK BK380.out), GW380.out, GE380.out, (by exact pB HB.out)⟩)
                    · skip
                      refine box_step ?hg (N := 7) ?hd (cs := #[.int .i64 0, .slice none 0 0]) (t := 43) ?hr ?_; (case hd => rfl); (case hg => rfl); (case hr => first | (go_simp; done) | (go_simp; rfl))
                      intro gb380 hg w47 hbox hb
                      have n0_ := Aside0.mk (Kd.S_below (Kd.S_elderB (by exact pS HO_4.out) gb380 (Nat.le_of_eq hg.symm)) hb)
                      have n1_ := Aside0.mk (below_step (by exact pB HB.out) hb)
                      have n2_ := Aside0.mk (hbox)
                      have n3_ := Aside0.mk ((by rw [hg]; exact (below_size (by exact pB HB.out)) : w.heap.size ≤ gb380))
                      have n4_ := Aside0.mk ((by rw [hg]; exact (below_size (by exact pB HB.out)) : w.heap.size ≤ gb380))
                      clear HO_4
                      clear HB
                      have HO_4 := n0_
                      have HB := n1_
                      have BK380 := n2_
                      have GW380 := n3_
                      have GE380 := n4_
                      clear n0_ n1_ n2_ n3_ n4_
                      clear hb hbox hg
                      refine hK.out _ _ (((HB.out.cell (World.block_lt_of_cell? w _ hw369_0)).trans hw369_0)) (fun hHeld => ?_)
                      clear hK K
                      refine norm_ (a' := ?_) ?_ ?_
                      rotate_left
                      · show Act.put _ (some 7) _ = _
                        simp only [Act.put, List.setIfInBounds_toArray, List.set_cons_zero, List.set_cons_succ, i64_w, i32_w]
                        rfl
                      refine one_ (i := 6) (N := some 45) #[true, true, true, true, true, true, true, true, true, true, true, true, true, true, true, false, false, true, false] rfl rfl (one_of HT_.out (by kernel_rfl)) (by decide) (fun K hK => ?_)
                      refine Kd.R_lit_step (Kd.int .u8) _ 5 ?hg (N := 45) ?hd (xs := ([] : List Int)) (inner := []) (ok := fun _ => True) (okp := fun _ => True) ?hr ?hp (fun _ hk => hk) trivial (Below.refl _ _) (Nat.le_refl _) (by simp) ?_; (case hd => rfl); (case hg => rfl); (case hr => first | (go_simp; done) | (go_simp; rfl)); (case hp => exact (Reps.none _ _))
                      intro v371 w48 ho49 hb hg_ hnew_
                      clear hg_ hnew_
                      (first | rw [← Ny370.out] at ho49 | (simp only [Int.reduceToNat] at ho49; rw [← Ny370.out] at ho49))
                      have n0_ := Aside0.mk (Kd.S_elder' (by exact pS HO_4.out) (Kd.R_base ho49) hb)
                      have n1_ := Aside0.mk (Kd.R_lower ho49 (below_size (by exact pB HB.out)))
                      have n2_ := Aside0.mk (blk_below (g := gb380) (o := .cells #[.int .i64 0, .slice none 0 0] 43 (0, 0)) (by exact pK BK380.out) hb)
                      have n3_ := Aside0.mk (below_step (by exact pB HB.out) hb)
                      clear HO_4
                      clear BK380
                      clear HB
                      have HO_4 := n0_
                      have HO372 := n1_
                      have BK380 := n2_
                      have HB := n3_
                      clear n0_ n1_ n2_ n3_
                      clear hb ho49
                      refine hK.out _ _ (((HB.out.cell (World.block_lt_of_cell? w _ hw369_0)).trans hw369_0)) (fun hHeld => ?_)
                      clear hK K
                      refine norm_ (a' := ?_) ?_ ?_
                      rotate_left
                      · show Act.put _ (some 45) _ = _
                        simp only [Act.put, List.setIfInBounds_toArray, List.set_cons_zero, List.set_cons_succ, i64_w, i32_w]
                        rfl
                      refine one_ (i := 15) (N := some 54) #[true, true, true, true, true, true, true, true, true, true, true, true, true, true, true, true, false, true, false] rfl rfl (one_of HT_.out (by kernel_rfl)) (by decide) (fun K hK => ?_)
                      refine Kd.R_append_rows_step (Kd.int .u8) (w0 := w) w.heap.size (by rfl) (.tmp 45) (.tmp 53) 22 5 (.int .u8 0) 1 rfl Try.underlying22 info5 rfl (by decide) (by omega) v371 y370 y373 _ _ _ (fun _ => True) (fun _ => False) rfl rfl ?aO ?aR (fun _ _ h => h) (fun _ h => h.elim) ?aF ?aB ?aS ?aL ?_
                      (case aR => exact pC (Kd.C_below HR376.out HB.out))
                      (case aB => exact (by exact pB HB.out))
                      (case aF => exact (fun _ _ => trivial))
                      (case aO => exact (by exact pR HO372.out))
                      (case aS => exact (below_size (by exact pB HB.out)))
                      (case aL => have := LMc19.out; omega)
                      intro v378 w50 ho hb hg hat
                      rw [← Ny377.out] at ho
                      have n0_ := Aside0.mk (Kd.S_after (ok := (fun k_ => k_ ≠ gb380)) (by exact pS (Kd.S_mono HO_4.out (fun _ hk => ⟨hk.1.2, hk.2⟩))) hg hat)
                      have n1_ := Aside0.mk (blk_grown (g := gb380) (o := .cells #[.int .i64 0, .slice none 0 0] 43 (0, 0)) (by exact pK BK380.out) hg (Kd.R_ne HO372.out BK380.out (by decide)))
                      have n2_ := Aside0.mk (hb)
                      have n3_ := Aside0.mk (ho)
                      clear HO_4
                      clear BK380
                      clear HB
                      clear HO372
                      have HO_4 := n0_
                      have BK380 := n1_
                      have HB := n2_
                      have HO379 := n3_
                      clear n0_ n1_ n2_ n3_
                      clear ho hb hg hat
                      obtain ⟨Ao51, co51, eo51⟩ := Kd.R_slice HO379.out
                      (first | subst eo51 | (injection eo51 with f1_ f2_ f3_; have f4_ := f1_.symm; have f5_ := f3_.symm; clear f1_ f2_ f3_; subst f4_; subst f5_))
                      refine hK.out _ _ (((HB.out.cell (World.block_lt_of_cell? w _ hw369_0)).trans hw369_0)) (fun hHeld => ?_)
                      clear hK K
                      refine norm_ (a' := ?_) ?_ ?_
                      rotate_left
                      · show Act.put _ (some 54) _ = _
                        simp only [Act.put, List.setIfInBounds_toArray, List.set_cons_zero, List.set_cons_succ, i64_w, i32_w]
                        rfl
                      refine pure_ (i := 16) (N := some 55) (v := ?_) (a' := ?_) #[true, true, true, true, true, true, true, true, true, true, true, true, true, true, true, true, true, true, false] rfl rfl (any_of HT_.out (by kernel_rfl)) (fun _ _ _ h => h) (Or.inl ⟨by rfl, ?_⟩) ?_ ?_
                      rotate_left
                      · intro w'
                        go_simp
                        with_reducible rfl
                      rotate_left
                      · simp only [Act.put, List.setIfInBounds_toArray, List.set_cons_zero, List.set_cons_succ, i64_w, i32_w]
                        rfl
                      exact norm_ (by simp only [putAll, Act.put, List.setIfInBounds_toArray, List.set_cons_zero, List.set_cons_succ]) (hCont (v371, .slice Ao51 y377.length co51, gb380) _ ⟨hHeld, (by exact pR HO379.out), (by exact pS (Kd.S_mono HO_4.out (fun _ hk => ⟨hk.2, hk.1⟩))), (by exact pK BK380.out), GW380.out, GE380.out, (by exact pB HB.out)⟩)
                  rintro ⟨v371, v378, gb380⟩ w52 ⟨hS_, h0_, h1_, h2_, h3_, h4_, h5_⟩
                  have n0_ : Aside0 (Kd.R (Kd.int .u8) 5 w52 w.heap.size (fun _ => True) v378 y377) := ⟨h0_⟩
                  have n1_ : Aside0 (Kd.S k43 43 w52 w.heap.size (fun k_ => some k_ ≠ (v378 : Value).ownBlock ∧ k_ ≠ gb380) u4 x4_1) := ⟨h1_⟩
                  have n2_ : Aside0 (w52.heap[gb380]? = some (.cells #[.int .i64 0, .slice none 0 0] 43 (0, 0))) := ⟨h2_⟩
                  have n3_ : Aside0 (w.heap.size ≤ gb380) := ⟨h3_⟩
                  have n4_ : Aside0 (w.heap.size ≤ gb380) := ⟨h4_⟩
                  have n5_ : Aside0 (Below w.heap.size w w52) := ⟨h5_⟩
                  clear HO_4
                  clear HB
                  clear h0_ h1_ h2_ h3_ h4_ h5_
                  have HO379 := n0_
                  have HO_4 := n1_
                  have BK380 := n2_
                  have GW380 := n3_
                  have GE380 := n4_
                  have HB := n5_
                  clear n0_ n1_ n2_ n3_ n4_ n5_
                  have hHeld : w52.cell? (ad367.add ((ji12)).toNat) = some (.int .u8 (rd l0 (ji12))) := hS_
                  obtain ⟨Ao53, co53, eo53⟩ := Kd.R_slice HO379.out
                  (first | subst eo53 | (injection eo53 with f1_ f2_ f3_; have f4_ := f1_.symm; have f5_ := f3_.symm; clear f1_ f2_ f3_; subst f4_; subst f5_))
                  refine norm_ (a' := ?_) ?_ ?_
                  rotate_left
                  · simp only [putAll, Act.put, List.setIfInBounds_toArray, List.set_cons_zero, List.set_cons_succ]
                    rfl
                  refine one_ (i := 18) (N := none) #[true, true, true, true, true, true, true, true, true, true, true, true, true, true, true, true, true, true, true] rfl rfl (one_of HT_.out (by kernel_rfl)) (by decide) (fun K hK => ?_)
                  have hs54 : w52.cell? ⟨gb380, 0, none⟩ = some (.int .i64 0) := (blk_cell BK380.out 0).trans rfl
                  have hfs54 := blk_frozen BK380.out 0
                  have hs55 : w52.cell? ⟨gb380, 1, none⟩ = some (.slice none 0 0) := (blk_cell BK380.out 1).trans rfl
                  have hfs55 := blk_frozen BK380.out 1
                  refine skip_ (w1 := ?_) (by rfl) rfl ?_ ?_
                  rotate_left
                  · go_simp
                    rfl
                  refine hK.out _ _ (((cell_far (p := ⟨gb380, _, none⟩) (by first | exact Nat.ne_of_lt (Nat.lt_of_lt_of_le (by have := World.block_lt_of_cell? _ _ hw369_0; first | rwa [add_block] at this | exact this) GW380.out) | (rw [add_block]; exact Nat.ne_of_lt (Nat.lt_of_lt_of_le (by have := World.block_lt_of_cell? _ _ hw369_0; first | rwa [add_block] at this | exact this) GW380.out)) | (show (Addr.add _ _).block ≠ _; rw [add_block]; exact Nat.ne_of_lt (Nat.lt_of_lt_of_le (by have := World.block_lt_of_cell? _ _ hw369_0; first | rwa [add_block] at this | exact this) GW380.out)) | (dsimp only; exact Nat.ne_of_lt (Nat.lt_of_lt_of_le (by have := World.block_lt_of_cell? _ _ hw369_0; first | rwa [add_block] at this | exact this) GW380.out))) _).trans (((cell_far (p := ⟨gb380, _, none⟩) (by first | exact Nat.ne_of_lt (Nat.lt_of_lt_of_le (by have := World.block_lt_of_cell? _ _ hw369_0; first | rwa [add_block] at this | exact this) GW380.out) | (rw [add_block]; exact Nat.ne_of_lt (Nat.lt_of_lt_of_le (by have := World.block_lt_of_cell? _ _ hw369_0; first | rwa [add_block] at this | exact this) GW380.out)) | (show (Addr.add _ _).block ≠ _; rw [add_block]; exact Nat.ne_of_lt (Nat.lt_of_lt_of_le (by have := World.block_lt_of_cell? _ _ hw369_0; first | rwa [add_block] at this | exact this) GW380.out)) | (dsimp only; exact Nat.ne_of_lt (Nat.lt_of_lt_of_le (by have := World.block_lt_of_cell? _ _ hw369_0; first | rwa [add_block] at this | exact this) GW380.out))) _).trans (hHeld))))) (fun hHeld => ?_)
                  clear hK K
                  refine done_ (done_of HT_.out (by kernel_rfl)) ?_
                  have hcz56_0 : w52.cell? ⟨gb380, 0, none⟩ = some (.int .i64 0) := (blk_cell BK380.out 0).trans rfl
                  have hcz56_1 : w52.cell? ⟨gb380, 1, none⟩ = some (.slice none 0 0) := (blk_cell BK380.out 1).trans rfl
                  have hfz56_0 := blk_frozen BK380.out 0
                  have hfz56_1 := blk_frozen BK380.out 1
                  try go_wp2_with (first | ((with_reducible refine gate_callee (f := 29) rfl ?_); refine goesL_ (some 58) rfl rfl Try.func29 (by kernel_rfl) rfl #[.agg #[.int .i64 (wrap64 (rd l0 (ji12))), .slice Ao53 y377.length co53]] rfl (by (try simp only [List.map_toArray, List.map_cons, List.map_nil]); first | done | (simp only [hji12]; rfl) | rfl | (simp only [List.length_drop, List.length_take]; rfl)) ?_; (with_reducible refine (customsref33_Encode.calls kj7 (wrap64 (rd l0 (ji12))) _ _ y377 t381 t384 _ ?side1 ?side2 A20.out).mono ?_); (case side1 => refine (Kd.R_reads' (e := 5) (base := w.heap.size) (ok := fun k_ => True) (n := y377.length) (c := co53) ?_).2.2; exact (by (with_reducible repeat (first | apply Kd.R_alloc | apply Kd.R_drewN | apply Kd.R_drew)); exact (Kd.R_mono (Kd.R_far (p := ⟨gb380, 1, none⟩) (Kd.R_far (p := ⟨gb380, 0, none⟩) (Kd.R_types HO379.out BK380.out (by decide)) (fun _ hk => hk.2) (.int .i64 (wrap64 (rd l0 (ji12))))) (fun _ hk => hk.2) (.slice Ao53 y377.length co53)) (fun _ h_ => h_.1)))); (case side2 => exact (Kd.R_reads' HO379.out).2.1); rintro e w57 ⟨v382, rfl, ho0, hb⟩; refine ⟨_, rfl, ?_⟩; have n0_ := Aside0.mk (Kd.S_elder' (by (with_reducible repeat (first | apply Kd.S_alloc | apply Kd.S_drewN | apply Kd.S_drew)); exact (Kd.S_mono (Kd.S_far (p := ⟨gb380, 1, none⟩) (Kd.S_far (p := ⟨gb380, 0, none⟩) (Kd.S_mono HO_4.out (fun k_ hk => (⟨hk, hk.2⟩ : _ ∧ k_ ≠ gb380))) (fun _ hk => hk.2) (.int .i64 (wrap64 (rd l0 (ji12))))) (fun _ hk => hk.2) (.slice Ao53 y377.length co53)) (fun _ h_ => h_.1))) (Kd.R_base ho0) hb); have n1_ := Aside0.mk (Kd.R_elder' (by (with_reducible repeat (first | apply Kd.R_alloc | apply Kd.R_drewN | apply Kd.R_drew)); exact (Kd.R_mono (Kd.R_far (p := ⟨gb380, 1, none⟩) (Kd.R_far (p := ⟨gb380, 0, none⟩) (Kd.R_types HO379.out BK380.out (by decide)) (fun _ hk => hk.2) (.int .i64 (wrap64 (rd l0 (ji12))))) (fun _ hk => hk.2) (.slice Ao53 y377.length co53)) (fun _ h_ => h_.1))) (Kd.R_base ho0) hb); have n2_ := Aside0.mk (Kd.R_lower (Kd.R_new' ho0 (Kd.R_lt (by (with_reducible repeat (first | apply Kd.R_alloc | apply Kd.R_drewN | apply Kd.R_drew)); exact (Kd.R_mono (Kd.R_far (p := ⟨gb380, 1, none⟩) (Kd.R_far (p := ⟨gb380, 0, none⟩) (Kd.R_types HO379.out BK380.out (by decide)) (fun _ hk => hk.2) (.int .i64 (wrap64 (rd l0 (ji12))))) (fun _ hk => hk.2) (.slice Ao53 y377.length co53)) (fun _ h_ => h_.1))))) (below_size (by repeat (first | (with_reducible first | exact HB.out | apply below_alloc | apply pw_below_drewN | apply below_drew1 | refine below_set ?_ GE380.out) | exact HB.out)))); have n3_ := Aside0.mk (blk_below (g := gb380) (o := .cells #[.int .i64 (wrap64 (rd l0 (ji12))), .slice Ao53 y377.length co53] 43 (0, 0)) (by (with_reducible repeat (first | refine blk_drewN ?_ _ | refine blk_drew ?_ | refine blk_alloc ?_ _)); refine blk_put (cs := #[.int .i64 (wrap64 (rd l0 (ji12))), .slice none 0 0]) ?_ 1 _ rfl; (with_reducible repeat (first | refine blk_drewN ?_ _ | refine blk_drew ?_ | refine blk_alloc ?_ _)); refine blk_put (cs := #[.int .i64 0, .slice none 0 0]) ?_ 0 _ rfl; (with_reducible repeat (first | refine blk_drewN ?_ _ | refine blk_drew ?_ | refine blk_alloc ?_ _)); exact BK380.out) hb); have n4_ := Aside0.mk (below_step (by repeat (first | (with_reducible first | exact HB.out | apply below_alloc | apply pw_below_drewN | apply below_drew1 | refine below_set ?_ GE380.out) | exact HB.out)) hb); clear HO_4; clear HO379; clear BK380; clear HB; have HO_4 := n0_; have HO379 := n1_; have HO383 := n2_; have BK380 := n3_; have HB := n4_; clear n0_ n1_ n2_ n3_ n4_; (try clear hb); (try clear hb2); (try clear hk); (try clear hi); (try clear ho0); have q58 : ((wrap64 ((wrap64 (x5_1 + 9)) + (wrap64 ((wrap64 ((wrap64 (rd l0 x5_1)) * 256)) + (wrap64 (rd l0 (ji5))))))) : Int) ≤ ((l0.length : Int) : Int) := of_decide_eq_true (by first | (with_reducible assumption) | assumption); obtain ⟨i058, hi058, _, hsz58, _⟩ := info_parts info5; have hroom58 : l0.length ≤ c0 := HC0.out; have hC58 : Kd.C (Kd.int .u8) _ (some ad367) l0.length l0 := HR0.out; have ql58 : (x5_1 : Int) ≤ ((wrap64 ((wrap64 (x5_1 + 9)) + (wrap64 ((wrap64 ((wrap64 (rd l0 x5_1)) * 256)) + (wrap64 (rd l0 (ji5))))))) : Int) := of_decide_eq_true (by first | (with_reducible assumption) | assumption); have q058 : (0 : Int) ≤ (x5_1 : Int) := of_decide_eq_true (by first | (with_reducible assumption) | assumption); have hcut58 := cut_mid (P := Try.prog) 22 5 .i64 .i64 Try.underlying22 hi058 1 hsz58 (some ad367) l0.length c0 x5_1 (wrap64 ((wrap64 (x5_1 + 9)) + (wrap64 ((wrap64 ((wrap64 (rd l0 x5_1)) * 256)) + (wrap64 (rd l0 (ji5))))))) q058 ql58 q58 hroom58; have hr58 := Kd.C_mid (lo := (x5_1 : Int).toNat) (hi := ((wrap64 ((wrap64 (x5_1 + 9)) + (wrap64 ((wrap64 ((wrap64 (rd l0 x5_1)) * 256)) + (wrap64 (rd l0 (ji5))))))) : Int).toNat) (c := c0) hC58 (by omega) (by omega) hroom58; obtain ⟨A58, hA58⟩ : ∃ A1, A1 = (if c0 = (x5_1 : Int).toNat then (some ad367) else ((some ad367) : Option Addr).map (·.add ((x5_1 : Int).toNat * 1))) := ⟨_, rfl⟩; obtain ⟨c58, hc58⟩ : ∃ c1, c1 = c0 - (x5_1 : Int).toNat := ⟨_, rfl⟩; have hy58 : y385.length = ((wrap64 ((wrap64 (x5_1 + 9)) + (wrap64 ((wrap64 ((wrap64 (rd l0 x5_1)) * 256)) + (wrap64 (rd l0 (ji5))))))) : Int).toNat - (x5_1 : Int).toNat := (by rw [Ny385.out, List.length_drop, List.length_take] <;> omega); rw [show ((l0).take ((wrap64 ((wrap64 (x5_1 + 9)) + (wrap64 ((wrap64 ((wrap64 (rd l0 x5_1)) * 256)) + (wrap64 (rd l0 (ji5))))))) : Int).toNat).drop (x5_1 : Int).toNat = y385 from Ny385.out.symm] at hr58; replace hr58 : Kd.C (Kd.int .u8) _ A58 y385.length y385 := (by rw [hA58]; exact hr58); rw [← hy58, ← hA58, ← hc58] at hcut58; have HR388 := Aside0.mk hr58; have HC388 := Aside0.mk (show y385.length ≤ c58 from by rw [hy58, hc58]; exact Nat.sub_le_sub_right (Nat.le_trans (by omega) hroom58) _); clear hr58 hC58 hroom58 hi058 hsz58 hc58; have KY58 := Aside0.mk hy58; have KA58 := Aside0.mk hA58; clear hy58 hA58; replace q58 := eq_true q58; obtain ⟨Ao59, co59, eo59⟩ := Kd.R_slice HO383.out; subst eo59) | (go_at_call 17; (with_reducible refine (customsref33_SameBytes.calls _ _ t381 _ _ y385 false _ ?side1 ?side2 ?side3 ?side4 A25.out).mono ?_); (case side1 => exact pC (Kd.R_reads' HO383.out).2.2); (case side2 => exact (Kd.R_reads' HO383.out).2.1); (case side3 => exact pC (Kd.C_below HR388.out HB.out)); (case side4 => exact HC388.out); rintro e w' ⟨rfl, ⟨nd, rfl⟩⟩))
                  go_ret2
                  exact ⟨_, by first | rfl | (simp [errW_none, errW_some] <;> rfl) | (simp only [← hji5, ← hji12, ← hji15]; first | rfl | (simp [errW_none, errW_some] <;> rfl)) | (simp [*, errW_none, errW_some] <;> rfl), by exact pS (Kd.S_mono HO_4.out (fun _ hk => trivial)), by exact pB HB.out⟩
              · rw [if_neg c21] at H
                have c21b0 : (t384 == 0) = false := beq_eq_false_iff_ne.mpr c21
                have c21b1 : (t384 != 0) = true := bne_iff_ne.mpr c21
                simp only [Option.some.injEq, Prod.mk.injEq] at H
                obtain ⟨rfl, rfl⟩ := H
                try go_wp2
                have n0_ := Aside0.mk (Kd.S_drew HO_4.out)
                have n1_ := Aside0.mk (below_drew1 HB.out)
                clear HO_4
                clear HB
                have HO_4 := n0_
                have HB := n1_
                clear n0_ n1_
                have p369 : 0 ≤ ((ji12) : Int) := of_decide_eq_true (by first | (with_reducible assumption) | assumption)
                have q369 : (ji12) < (l0.length : Int) := of_decide_eq_true (by first | (with_reducible assumption) | assumption)
                obtain ⟨ad369, e369, hx369_0⟩ := Kd.at_int HR0.out (ji12) p369 q369
                have hw369_0 := hx369_0
                obtain rfl : ad367 = ad369 := (by injection e369)
                replace hx369_0 := (HB.out.cell (World.block_lt_of_cell? w _ hx369_0)).trans hx369_0
                replace p369 := eq_true p369
                replace q369 := eq_true q369
                have q61 : ((wrap64 ((ji15) + (wrap64 ((wrap64 ((wrap64 (rd l0 x5_1)) * 256)) + (wrap64 (rd l0 (ji5))))))) : Int) ≤ ((l0.length : Int) : Int) := of_decide_eq_true (by first | (with_reducible assumption) | assumption)
                obtain ⟨i061, hi061, _, hsz61, _⟩ := info_parts info5
                have hroom61 : l0.length ≤ c0 := HC0.out
                have hC61 : Kd.C (Kd.int .u8) _ (some ad367) l0.length l0 := HR0.out
                have ql61 : ((ji15) : Int) ≤ ((wrap64 ((ji15) + (wrap64 ((wrap64 ((wrap64 (rd l0 x5_1)) * 256)) + (wrap64 (rd l0 (ji5))))))) : Int) := of_decide_eq_true (by first | (with_reducible assumption) | assumption)
                have q061 : (0 : Int) ≤ ((ji15) : Int) := of_decide_eq_true (by first | (with_reducible assumption) | assumption)
                have hcut61 := cut_mid (P := Try.prog) 22 5 .i64 .i64 Try.underlying22 hi061 1 hsz61 (some ad367) l0.length c0 (ji15) (wrap64 ((ji15) + (wrap64 ((wrap64 ((wrap64 (rd l0 x5_1)) * 256)) + (wrap64 (rd l0 (ji5))))))) q061 ql61 q61 hroom61
                have hr61 := Kd.C_mid (lo := ((ji15) : Int).toNat) (hi := ((wrap64 ((ji15) + (wrap64 ((wrap64 ((wrap64 (rd l0 x5_1)) * 256)) + (wrap64 (rd l0 (ji5))))))) : Int).toNat) (c := c0) hC61 (by omega) (by omega) hroom61
                obtain ⟨A61, hA61⟩ : ∃ A1, A1 = (if c0 = ((ji15) : Int).toNat then (some ad367) else ((some ad367) : Option Addr).map (·.add (((ji15) : Int).toNat * 1))) := ⟨_, rfl⟩
                obtain ⟨c61, hc61⟩ : ∃ c1, c1 = c0 - ((ji15) : Int).toNat := ⟨_, rfl⟩
                have hy61 : y373.length = ((wrap64 ((ji15) + (wrap64 ((wrap64 ((wrap64 (rd l0 x5_1)) * 256)) + (wrap64 (rd l0 (ji5))))))) : Int).toNat - ((ji15) : Int).toNat := (by rw [Ny373.out, List.length_drop, List.length_take] <;> omega)
                rw [show ((l0).take ((wrap64 ((ji15) + (wrap64 ((wrap64 ((wrap64 (rd l0 x5_1)) * 256)) + (wrap64 (rd l0 (ji5))))))) : Int).toNat).drop ((ji15) : Int).toNat = y373 from Ny373.out.symm] at hr61
                replace hr61 : Kd.C (Kd.int .u8) _ A61 y373.length y373 := (by rw [hA61]; exact hr61)
                rw [← hy61, ← hA61, ← hc61] at hcut61
                have HR376 := Aside0.mk hr61
                have HC376 := Aside0.mk (show y373.length ≤ c61 from by rw [hy61, hc61]; exact Nat.sub_le_sub_right (Nat.le_trans (by omega) hroom61) _)
                clear hr61 hC61 hroom61 hi061 hsz61 hc61
                have KY61 := Aside0.mk hy61
                have KA61 := Aside0.mk hA61
                clear hy61 hA61
                replace q61 := eq_true q61
                refine start_ (n := 19) (S := fun w' => w'.cell? (ad367.add ((ji12)).toNat) = some (.int .u8 (rd l0 (ji12)))) (ds := []) #[false, false, false, false, false, false, false, false, false, false, false, false, false, false, false, false, false, false, false] (by kernel_rfl) rfl rfl (((HB.out.cell (World.block_lt_of_cell? w _ hw369_0)).trans hw369_0)) (fun hHeld => ?_); refine with_tabW customsref33_Scan.tab6 customsref33_Scan.bits6 (fun HT_ HW_ => ?_)
                generalize wc.drew = w60 at HO_4 HB HR376 hx369_0 hHeld ⊢
                refine pure_ (i := 0) (N := some 39) (v := ?_) (a' := ?_) #[true, false, false, false, false, false, false, false, false, false, false, false, false, false, false, false, false, false, false] rfl rfl (any_of HT_.out (by kernel_rfl)) (fun _ _ _ h => h) (Or.inl ⟨by rfl, ?_⟩) ?_ ?_
                rotate_left
                · intro w'
                  go_simp
                  with_reducible rfl
                rotate_left
                · simp only [Act.put, List.setIfInBounds_toArray, List.set_cons_zero, List.set_cons_succ, i64_w, i32_w]
                  rfl
                refine pure_ (i := 1) (N := some 40) (v := ?_) (a' := ?_) #[true, true, false, false, false, false, false, false, false, false, false, false, false, false, false, false, false, false, false] rfl rfl (any_of HT_.out (by kernel_rfl)) (fun _ _ _ h => h) (Or.inl ⟨by rfl, ?_⟩) ?_ ?_
                rotate_left
                · intro w'
                  go_simp
                  with_reducible rfl
                rotate_left
                · simp only [Act.put, List.setIfInBounds_toArray, List.set_cons_zero, List.set_cons_succ, i64_w, i32_w]
                  rfl
                refine pure_ (i := 2) (N := some 41) (v := ?_) (a' := ?_) #[true, true, true, false, false, false, false, false, false, false, false, false, false, false, false, false, false, false, false] rfl rfl (any_of HT_.out (by kernel_rfl)) (fun _ _ _ h => h) (Or.inl ⟨by rfl, ?_⟩) ?_ ?_
                rotate_left
                · intro w'
                  go_simp
                  with_reducible rfl
                rotate_left
                · simp only [Act.put, List.setIfInBounds_toArray, List.set_cons_zero, List.set_cons_succ, i64_w, i32_w]
                  rfl
                refine pure_ (i := 3) (N := some 42) (v := ?_) (a' := ?_) #[true, true, true, true, false, false, false, false, false, false, false, false, false, false, false, false, false, false, false] rfl rfl (any_of HT_.out (by kernel_rfl)) (fun _ _ _ h => h) (Or.inl ⟨by rfl, ?_⟩) ?_ ?_
                rotate_left
                · intro w'
                  go_simp
                  with_reducible rfl
                rotate_left
                · simp only [Act.put, List.setIfInBounds_toArray, List.set_cons_zero, List.set_cons_succ, i64_w, i32_w]
                  rfl
                refine pure_ (i := 7) (N := some 46) (v := ?_) (a' := ?_) #[true, true, true, true, false, false, false, true, false, false, false, false, false, false, false, false, false, false, false] rfl rfl (any_of HT_.out (by kernel_rfl)) (fun _ _ _ h => h) (Or.inl ⟨by rfl, ?_⟩) ?_ ?_
                rotate_left
                · intro w'
                  go_simp
                  with_reducible rfl
                rotate_left
                · simp only [Act.put, List.setIfInBounds_toArray, List.set_cons_zero, List.set_cons_succ, i64_w, i32_w]
                  rfl
                refine pure_ (i := 8) (N := some 47) (v := ?_) (a' := ?_) #[true, true, true, true, false, false, false, true, true, false, false, false, false, false, false, false, false, false, false] rfl rfl (any_of HT_.out (by kernel_rfl)) (fun _ _ _ h => h) (Or.inl ⟨by rfl, ?_⟩) ?_ ?_
                rotate_left
                · intro w'
                  go_simp
                  with_reducible rfl
                rotate_left
                · simp only [Act.put, List.setIfInBounds_toArray, List.set_cons_zero, List.set_cons_succ, i64_w, i32_w]
                  rfl
                refine pure_ (i := 9) (N := some 48) (v := ?_) (a' := ?_) #[true, true, true, true, false, false, false, true, true, true, false, false, false, false, false, false, false, false, false] rfl rfl (any_of HT_.out (by kernel_rfl)) (fun _ _ _ h => h) (Or.inl ⟨by rfl, ?_⟩) ?_ ?_
                rotate_left
                · intro w'
                  go_simp
                  with_reducible rfl
                rotate_left
                · simp only [Act.put, List.setIfInBounds_toArray, List.set_cons_zero, List.set_cons_succ, i64_w, i32_w]
                  rfl
                refine pure_ (i := 10) (N := some 49) (v := ?_) (a' := ?_) #[true, true, true, true, false, false, false, true, true, true, true, false, false, false, false, false, false, false, false] rfl rfl (any_of HT_.out (by kernel_rfl)) (fun _ _ _ h => h) (Or.inl ⟨by rfl, ?_⟩) ?_ ?_
                rotate_left
                · intro w'
                  go_simp
                  with_reducible rfl
                rotate_left
                · simp only [Act.put, List.setIfInBounds_toArray, List.set_cons_zero, List.set_cons_succ, i64_w, i32_w]
                  rfl
                refine pure_ (i := 11) (N := some 50) (v := ?_) (a' := ?_) #[true, true, true, true, false, false, false, true, true, true, true, true, false, false, false, false, false, false, false] rfl rfl (any_of HT_.out (by kernel_rfl)) (fun _ _ _ h => h) (Or.inl ⟨by rfl, ?_⟩) ?_ ?_
                rotate_left
                · intro w'
                  go_simp
                  with_reducible rfl
                rotate_left
                · simp only [Act.put, List.setIfInBounds_toArray, List.set_cons_zero, List.set_cons_succ, i64_w, i32_w]
                  rfl
                refine pure_ (i := 12) (N := some 51) (v := ?_) (a' := ?_) #[true, true, true, true, false, false, false, true, true, true, true, true, true, false, false, false, false, false, false] rfl rfl (any_of HT_.out (by kernel_rfl)) (fun _ _ _ h => h) (Or.inl ⟨by rfl, ?_⟩) ?_ ?_
                rotate_left
                · intro w'
                  go_simp
                  with_reducible rfl
                rotate_left
                · simp only [Act.put, List.setIfInBounds_toArray, List.set_cons_zero, List.set_cons_succ, i64_w, i32_w]
                  rfl
                refine pure_ (i := 13) (N := some 52) (v := ?_) (a' := ?_) #[true, true, true, true, false, false, false, true, true, true, true, true, true, true, false, false, false, false, false] rfl rfl (any_of HT_.out (by kernel_rfl)) (fun _ _ _ h => h) (Or.inl ⟨by rfl, ?_⟩) ?_ ?_
                rotate_left
                · intro w'
                  go_simp
                  with_reducible rfl
                rotate_left
                · simp only [Act.put, List.setIfInBounds_toArray, List.set_cons_zero, List.set_cons_succ, i64_w, i32_w]
                  rfl
                refine pure_ (i := 14) (N := some 53) (v := ?_) (a' := ?_) #[true, true, true, true, false, false, false, true, true, true, true, true, true, true, true, false, false, false, false] rfl rfl (any_of HT_.out (by kernel_rfl)) (fun _ _ _ h => h) (Or.inl ⟨by rfl, ?_⟩) ?_ ?_
                rotate_left
                · intro w'
                  go_simp
                  with_reducible rfl
                rotate_left
                · simp only [Act.put, List.setIfInBounds_toArray, List.set_cons_zero, List.set_cons_succ, i64_w, i32_w]
                  rfl
                refine take_ (i := 4) (N := some 43) (v := ?_) (a' := ?_) #[true, true, true, true, true, false, false, true, true, true, true, true, true, true, true, false, false, false, false] rfl rfl (take_ofW HT_.out HW_.out (by kernel_rfl)) (fun _ _ _ h => h) (Or.inl ⟨by rfl, ?_⟩) hHeld ?_ ?_
                rotate_left
                · intro w' s0
                  go_simp
                  with_reducible rfl
                rotate_left
                · simp only [Act.put, List.setIfInBounds_toArray, List.set_cons_zero, List.set_cons_succ, i64_w, i32_w]
                  rfl
                refine pure_ (i := 5) (N := some 44) (v := ?_) (a' := ?_) #[true, true, true, true, true, true, false, true, true, true, true, true, true, true, true, false, false, false, false] rfl rfl (any_of HT_.out (by kernel_rfl)) (fun _ _ _ h => h) (Or.inl ⟨by rfl, ?_⟩) ?_ ?_
                rotate_left
                · intro w'
                  go_simp
                  with_reducible rfl
                rotate_left
                · simp only [Act.put, List.setIfInBounds_toArray, List.set_cons_zero, List.set_cons_succ, i64_w, i32_w]
                  rfl
                refine join_ (σ := Value × Value × Nat) 1 #[true, true, true, true, true, true, true, true, true, true, true, true, true, true, true, true, true, true, false] (fun s_ => [(45, s_.1), (54, s_.2.1), (7, .pointer (some ⟨s_.2.2, 0, none⟩)), (55, .agg #[.int .i64 (wrap64 (rd l0 (ji12))), s_.2.1])]) (fun s_ w' => (w'.cell? (ad367.add ((ji12)).toNat) = some (.int .u8 (rd l0 (ji12)))) ∧ (Kd.R (Kd.int .u8) 5 w' w.heap.size (fun _ => True) s_.2.1 y377) ∧ (Kd.S k43 43 w' w.heap.size (fun k_ => some k_ ≠ (s_.2.1 : Value).ownBlock ∧ k_ ≠ s_.2.2) u4 x4_1) ∧ (w'.heap[s_.2.2]? = some (.cells #[.int .i64 0, .slice none 0 0] 43 (0, 0))) ∧ (w.heap.size ≤ s_.2.2) ∧ (w.heap.size ≤ s_.2.2) ∧ (Below w.heap.size w w')) ?_ ?_
                rotate_left
                · intro hCont
                  refine two_ (i := 6) (j := 17) (Ni := some 45) (Nj := some 7) #[true, true, true, true, true, true, true, true, true, true, true, true, true, true, true, false, false, false, false] #[true, true, true, true, true, true, false, true, true, true, true, true, true, true, true, false, false, true, false] rfl rfl rfl rfl (two_of HT_.out (by kernel_rfl)) (by decide) (by decide) (fun K hK => ?_) (fun K hK => ?_)
                  · skip
                    refine Kd.R_lit_step (Kd.int .u8) _ 5 ?hg (N := 45) ?hd (xs := ([] : List Int)) (inner := []) (ok := fun _ => True) (okp := fun _ => True) ?hr ?hp (fun _ hk => hk) trivial (Below.refl _ _) (Nat.le_refl _) (by simp) ?_; (case hd => rfl); (case hg => rfl); (case hr => first | (go_simp; done) | (go_simp; rfl)); (case hp => exact (Reps.none _ _))
                    intro v371 w62 ho63 hb hg_ hnew_
                    clear hg_ hnew_
                    (first | rw [← Ny370.out] at ho63 | (simp only [Int.reduceToNat] at ho63; rw [← Ny370.out] at ho63))
                    have n0_ := Aside0.mk (Kd.S_elder' (by exact pS HO_4.out) (Kd.R_base ho63) hb)
                    have n1_ := Aside0.mk (Kd.R_lower ho63 (below_size (by exact pB HB.out)))
                    have n2_ := Aside0.mk (below_step (by exact pB HB.out) hb)
                    clear HO_4
                    clear HB
                    have HO_4 := n0_
                    have HO372 := n1_
                    have HB := n2_
                    clear n0_ n1_ n2_
                    clear hb ho63
                    refine hK.out _ _ (((HB.out.cell (World.block_lt_of_cell? w _ hw369_0)).trans hw369_0)) (fun hHeld => ?_)
                    clear hK K
                    refine norm_ (a' := ?_) ?_ ?_
                    rotate_left
                    · show Act.put _ (some 45) _ = _
                      simp only [Act.put, List.setIfInBounds_toArray, List.set_cons_zero, List.set_cons_succ, i64_w, i32_w]
                      rfl
                    refine two_ (i := 15) (j := 17) (Ni := some 54) (Nj := some 7) #[true, true, true, true, true, true, true, true, true, true, true, true, true, true, true, true, false, false, false] #[true, true, true, true, true, true, true, true, true, true, true, true, true, true, true, false, false, true, false] rfl rfl rfl rfl (two_of HT_.out (by kernel_rfl)) (by decide) (by decide) (fun K hK => ?_) (fun K hK => ?_)
                    · skip
                      refine Kd.R_append_rows_step (Kd.int .u8) (w0 := w) w.heap.size (by rfl) (.tmp 45) (.tmp 53) 22 5 (.int .u8 0) 1 rfl Try.underlying22 info5 rfl (by decide) (by omega) v371 y370 y373 _ _ _ (fun _ => True) (fun _ => False) rfl rfl ?aO ?aR (fun _ _ h => h) (fun _ h => h.elim) ?aF ?aB ?aS ?aL ?_
                      (case aR => exact pC (Kd.C_below HR376.out HB.out))
                      (case aB => exact (by exact pB HB.out))
                      (case aF => exact (fun _ _ => trivial))
                      (case aO => exact (by exact pR HO372.out))
                      (case aS => exact (below_size (by exact pB HB.out)))
                      (case aL => have := LMc19.out; omega)
                      intro v378 w64 ho hb hg hat
                      rw [← Ny377.out] at ho
                      have n0_ := Aside0.mk (Kd.S_after (ok := (fun _ => True)) (by exact pS HO_4.out) hg hat)
                      have n1_ := Aside0.mk (hb)
                      have n2_ := Aside0.mk (ho)
                      clear HO_4
                      clear HB
                      clear HO372
                      have HO_4 := n0_
                      have HB := n1_
                      have HO379 := n2_
                      clear n0_ n1_ n2_
                      clear ho hb hg hat
                      obtain ⟨Ao65, co65, eo65⟩ := Kd.R_slice HO379.out
                      (first | subst eo65 | (injection eo65 with f1_ f2_ f3_; have f4_ := f1_.symm; have f5_ := f3_.symm; clear f1_ f2_ f3_; subst f4_; subst f5_))
                      refine hK.out _ _ (((HB.out.cell (World.block_lt_of_cell? w _ hw369_0)).trans hw369_0)) (fun hHeld => ?_)
                      clear hK K
                      refine norm_ (a' := ?_) ?_ ?_
                      rotate_left
                      · show Act.put _ (some 54) _ = _
                        simp only [Act.put, List.setIfInBounds_toArray, List.set_cons_zero, List.set_cons_succ, i64_w, i32_w]
                        rfl
                      refine pure_ (i := 16) (N := some 55) (v := ?_) (a' := ?_) #[true, true, true, true, true, true, true, true, true, true, true, true, true, true, true, true, true, false, false] rfl rfl (any_of HT_.out (by kernel_rfl)) (fun _ _ _ h => h) (Or.inl ⟨by rfl, ?_⟩) ?_ ?_
                      rotate_left
                      · intro w'
                        go_simp
                        with_reducible rfl
                      rotate_left
                      · simp only [Act.put, List.setIfInBounds_toArray, List.set_cons_zero, List.set_cons_succ, i64_w, i32_w]
                        rfl
                      refine one_ (i := 17) (N := some 7) #[true, true, true, true, true, true, true, true, true, true, true, true, true, true, true, true, true, true, false] rfl rfl (one_of HT_.out (by kernel_rfl)) (by decide) (fun K hK => ?_)
                      refine box_step ?hg (N := 7) ?hd (cs := #[.int .i64 0, .slice none 0 0]) (t := 43) ?hr ?_; (case hd => rfl); (case hg => rfl); (case hr => first | (go_simp; done) | (go_simp; rfl))
                      intro gb380 hg w66 hbox hb
                      have n0_ := Aside0.mk (Kd.S_below (Kd.S_elderB (by exact pS HO_4.out) gb380 (Nat.le_of_eq hg.symm)) hb)
                      have n1_ := Aside0.mk (Kd.R_below (by exact pR HO379.out) hb)
                      have n2_ := Aside0.mk (below_step (by exact pB HB.out) hb)
                      have n3_ := Aside0.mk (hbox)
                      have n4_ := Aside0.mk ((by rw [hg]; exact (below_size (by exact pB HB.out)) : w.heap.size ≤ gb380))
                      have n5_ := Aside0.mk ((by rw [hg]; exact (below_size (by exact pB HB.out)) : w.heap.size ≤ gb380))
                      clear HO_4
                      clear HO379
                      clear HB
                      have HO_4 := n0_
                      have HO379 := n1_
                      have HB := n2_
                      have BK380 := n3_
                      have GW380 := n4_
                      have GE380 := n5_
                      clear n0_ n1_ n2_ n3_ n4_ n5_
                      clear hb hbox hg
                      refine hK.out _ _ (((HB.out.cell (World.block_lt_of_cell? w _ hw369_0)).trans hw369_0)) (fun hHeld => ?_)
                      clear hK K
                      refine norm_ (a' := ?_) ?_ ?_
                      rotate_left
                      · show Act.put _ (some 7) _ = _
                        simp only [Act.put, List.setIfInBounds_toArray, List.set_cons_zero, List.set_cons_succ, i64_w, i32_w]
                        rfl
                      exact norm_ (by simp only [putAll, Act.put, List.setIfInBounds_toArray, List.set_cons_zero, List.set_cons_succ]) (hCont (v371, .slice Ao65 y377.length co65, gb380) _ ⟨hHeld, (by exact pR HO379.out), (by exact pS (Kd.S_mono HO_4.out (fun _ hk => ⟨hk.1.2, hk.2⟩))), (by exact pK BK380.out), GW380.out, GE380.out, (by exact pB HB.out)⟩)
                    · skip
                      refine box_step ?hg (N := 7) ?hd (cs := #[.int .i64 0, .slice none 0 0]) (t := 43) ?hr ?_; (case hd => rfl); (case hg => rfl); (case hr => first | (go_simp; done) | (go_simp; rfl))
                      intro gb380 hg w64 hbox hb
                      have n0_ := Aside0.mk (Kd.S_below (Kd.S_elderB (by exact pS HO_4.out) gb380 (Nat.le_of_eq hg.symm)) hb)
                      have n1_ := Aside0.mk (Kd.R_below (by exact pR HO372.out) hb)
                      have n2_ := Aside0.mk (below_step (by exact pB HB.out) hb)
                      have n3_ := Aside0.mk (hbox)
                      have n4_ := Aside0.mk ((by rw [hg]; exact (below_size (by exact pB HB.out)) : w.heap.size ≤ gb380))
                      have n5_ := Aside0.mk ((by rw [hg]; exact (below_size (by exact pB HB.out)) : w.heap.size ≤ gb380))
                      clear HO_4
                      clear HO372
                      clear HB
                      have HO_4 := n0_
                      have HO372 := n1_
                      have HB := n2_
                      have BK380 := n3_
                      have GW380 := n4_
                      have GE380 := n5_
                      clear n0_ n1_ n2_ n3_ n4_ n5_
                      clear hb hbox hg
                      refine hK.out _ _ (((HB.out.cell (World.block_lt_of_cell? w _ hw369_0)).trans hw369_0)) (fun hHeld => ?_)
                      clear hK K
                      refine norm_ (a' := ?_) ?_ ?_
                      rotate_left
                      · show Act.put _ (some 7) _ = _
                        simp only [Act.put, List.setIfInBounds_toArray, List.set_cons_zero, List.set_cons_succ, i64_w, i32_w]
                        rfl
                      refine one_ (i := 15) (N := some 54) #[true, true, true, true, true, true, true, true, true, true, true, true, true, true, true, true, false, true, false] rfl rfl (one_of HT_.out (by kernel_rfl)) (by decide) (fun K hK => ?_)
                      refine Kd.R_append_rows_step (Kd.int .u8) (w0 := w) w.heap.size (by rfl) (.tmp 45) (.tmp 53) 22 5 (.int .u8 0) 1 rfl Try.underlying22 info5 rfl (by decide) (by omega) v371 y370 y373 _ _ _ (fun _ => True) (fun _ => False) rfl rfl ?aO ?aR (fun _ _ h => h) (fun _ h => h.elim) ?aF ?aB ?aS ?aL ?_
                      (case aR => exact pC (Kd.C_below HR376.out HB.out))
                      (case aB => exact (by exact pB HB.out))
                      (case aF => exact (fun _ _ => trivial))
                      (case aO => exact (by exact pR HO372.out))
                      (case aS => exact (below_size (by exact pB HB.out)))
                      (case aL => have := LMc19.out; omega)
                      intro v378 w65 ho hb hg hat
                      rw [← Ny377.out] at ho
                      have n0_ := Aside0.mk (Kd.S_after (ok := (fun k_ => k_ ≠ gb380)) (by exact pS (Kd.S_mono HO_4.out (fun _ hk => ⟨hk.2, hk.1.2⟩))) hg hat)
                      have n1_ := Aside0.mk (blk_grown (g := gb380) (o := .cells #[.int .i64 0, .slice none 0 0] 43 (0, 0)) (by exact pK BK380.out) hg (Kd.R_ne HO372.out BK380.out (by decide)))
                      have n2_ := Aside0.mk (hb)
                      have n3_ := Aside0.mk (ho)
                      clear HO_4
                      clear BK380
                      clear HB
                      clear HO372
                      have HO_4 := n0_
                      have BK380 := n1_
                      have HB := n2_
                      have HO379 := n3_
                      clear n0_ n1_ n2_ n3_
                      clear ho hb hg hat
                      obtain ⟨Ao66, co66, eo66⟩ := Kd.R_slice HO379.out
                      (first | subst eo66 | (injection eo66 with f1_ f2_ f3_; have f4_ := f1_.symm; have f5_ := f3_.symm; clear f1_ f2_ f3_; subst f4_; subst f5_))
                      refine hK.out _ _ (((HB.out.cell (World.block_lt_of_cell? w _ hw369_0)).trans hw369_0)) (fun hHeld => ?_)
                      clear hK K
                      refine norm_ (a' := ?_) ?_ ?_
                      rotate_left
                      · show Act.put _ (some 54) _ = _
                        simp only [Act.put, List.setIfInBounds_toArray, List.set_cons_zero, List.set_cons_succ, i64_w, i32_w]
                        rfl
                      refine pure_ (i := 16) (N := some 55) (v := ?_) (a' := ?_) #[true, true, true, true, true, true, true, true, true, true, true, true, true, true, true, true, true, true, false] rfl rfl (any_of HT_.out (by kernel_rfl)) (fun _ _ _ h => h) (Or.inl ⟨by rfl, ?_⟩) ?_ ?_
                      rotate_left
                      · intro w'
                        go_simp
                        with_reducible rfl
                      rotate_left
                      · simp only [Act.put, List.setIfInBounds_toArray, List.set_cons_zero, List.set_cons_succ, i64_w, i32_w]
                        rfl
                      exact norm_ (by simp only [putAll, Act.put, List.setIfInBounds_toArray, List.set_cons_zero, List.set_cons_succ]) (hCont (v371, .slice Ao66 y377.length co66, gb380) _ ⟨hHeld, (by exact pR HO379.out), (by exact pS (Kd.S_mono HO_4.out (fun _ hk => ⟨hk.2, hk.1⟩))), (by exact pK BK380.out), GW380.out, GE380.out, (by exact pB HB.out)⟩)
                  · skip
                    refine box_step ?hg (N := 7) ?hd (cs := #[.int .i64 0, .slice none 0 0]) (t := 43) ?hr ?_; (case hd => rfl); (case hg => rfl); (case hr => first | (go_simp; done) | (go_simp; rfl))
                    intro gb380 hg w62 hbox hb
                    have n0_ := Aside0.mk (Kd.S_below (Kd.S_elderB (by exact pS HO_4.out) gb380 (Nat.le_of_eq hg.symm)) hb)
                    have n1_ := Aside0.mk (below_step (by exact pB HB.out) hb)
                    have n2_ := Aside0.mk (hbox)
                    have n3_ := Aside0.mk ((by rw [hg]; exact (below_size (by exact pB HB.out)) : w.heap.size ≤ gb380))
                    have n4_ := Aside0.mk ((by rw [hg]; exact (below_size (by exact pB HB.out)) : w.heap.size ≤ gb380))
                    clear HO_4
                    clear HB
                    have HO_4 := n0_
                    have HB := n1_
                    have BK380 := n2_
                    have GW380 := n3_
                    have GE380 := n4_
                    clear n0_ n1_ n2_ n3_ n4_
                    clear hb hbox hg
                    refine hK.out _ _ (((HB.out.cell (World.block_lt_of_cell? w _ hw369_0)).trans hw369_0)) (fun hHeld => ?_)
                    clear hK K
                    refine norm_ (a' := ?_) ?_ ?_
                    rotate_left
                    · show Act.put _ (some 7) _ = _
                      simp only [Act.put, List.setIfInBounds_toArray, List.set_cons_zero, List.set_cons_succ, i64_w, i32_w]
                      rfl
                    refine one_ (i := 6) (N := some 45) #[true, true, true, true, true, true, true, true, true, true, true, true, true, true, true, false, false, true, false] rfl rfl (one_of HT_.out (by kernel_rfl)) (by decide) (fun K hK => ?_)
                    refine Kd.R_lit_step (Kd.int .u8) _ 5 ?hg (N := 45) ?hd (xs := ([] : List Int)) (inner := []) (ok := fun _ => True) (okp := fun _ => True) ?hr ?hp (fun _ hk => hk) trivial (Below.refl _ _) (Nat.le_refl _) (by simp) ?_; (case hd => rfl); (case hg => rfl); (case hr => first | (go_simp; done) | (go_simp; rfl)); (case hp => exact (Reps.none _ _))
                    intro v371 w63 ho64 hb hg_ hnew_
                    clear hg_ hnew_
                    (first | rw [← Ny370.out] at ho64 | (simp only [Int.reduceToNat] at ho64; rw [← Ny370.out] at ho64))
                    have n0_ := Aside0.mk (Kd.S_elder' (by exact pS HO_4.out) (Kd.R_base ho64) hb)
                    have n1_ := Aside0.mk (Kd.R_lower ho64 (below_size (by exact pB HB.out)))
                    have n2_ := Aside0.mk (blk_below (g := gb380) (o := .cells #[.int .i64 0, .slice none 0 0] 43 (0, 0)) (by exact pK BK380.out) hb)
                    have n3_ := Aside0.mk (below_step (by exact pB HB.out) hb)
                    clear HO_4
                    clear BK380
                    clear HB
                    have HO_4 := n0_
                    have HO372 := n1_
                    have BK380 := n2_
                    have HB := n3_
                    clear n0_ n1_ n2_ n3_
                    clear hb ho64
                    refine hK.out _ _ (((HB.out.cell (World.block_lt_of_cell? w _ hw369_0)).trans hw369_0)) (fun hHeld => ?_)
                    clear hK K
                    refine norm_ (a' := ?_) ?_ ?_
                    rotate_left
                    · show Act.put _ (some 45) _ = _
                      simp only [Act.put, List.setIfInBounds_toArray, List.set_cons_zero, List.set_cons_succ, i64_w, i32_w]
                      rfl
                    refine one_ (i := 15) (N := some 54) #[true, true, true, true, true, true, true, true, true, true, true, true, true, true, true, true, false, true, false] rfl rfl (one_of HT_.out (by kernel_rfl)) (by decide) (fun K hK => ?_)
                    refine Kd.R_append_rows_step (Kd.int .u8) (w0 := w) w.heap.size (by rfl) (.tmp 45) (.tmp 53) 22 5 (.int .u8 0) 1 rfl Try.underlying22 info5 rfl (by decide) (by omega) v371 y370 y373 _ _ _ (fun _ => True) (fun _ => False) rfl rfl ?aO ?aR (fun _ _ h => h) (fun _ h => h.elim) ?aF ?aB ?aS ?aL ?_
                    (case aR => exact pC (Kd.C_below HR376.out HB.out))
                    (case aB => exact (by exact pB HB.out))
                    (case aF => exact (fun _ _ => trivial))
                    (case aO => exact (by exact pR HO372.out))
                    (case aS => exact (below_size (by exact pB HB.out)))
                    (case aL => have := LMc19.out; omega)
                    intro v378 w65 ho hb hg hat
                    rw [← Ny377.out] at ho
                    have n0_ := Aside0.mk (Kd.S_after (ok := (fun k_ => k_ ≠ gb380)) (by exact pS (Kd.S_mono HO_4.out (fun _ hk => ⟨hk.1.2, hk.2⟩))) hg hat)
                    have n1_ := Aside0.mk (blk_grown (g := gb380) (o := .cells #[.int .i64 0, .slice none 0 0] 43 (0, 0)) (by exact pK BK380.out) hg (Kd.R_ne HO372.out BK380.out (by decide)))
                    have n2_ := Aside0.mk (hb)
                    have n3_ := Aside0.mk (ho)
                    clear HO_4
                    clear BK380
                    clear HB
                    clear HO372
                    have HO_4 := n0_
                    have BK380 := n1_
                    have HB := n2_
                    have HO379 := n3_
                    clear n0_ n1_ n2_ n3_
                    clear ho hb hg hat
                    obtain ⟨Ao66, co66, eo66⟩ := Kd.R_slice HO379.out
                    (first | subst eo66 | (injection eo66 with f1_ f2_ f3_; have f4_ := f1_.symm; have f5_ := f3_.symm; clear f1_ f2_ f3_; subst f4_; subst f5_))
                    refine hK.out _ _ (((HB.out.cell (World.block_lt_of_cell? w _ hw369_0)).trans hw369_0)) (fun hHeld => ?_)
                    clear hK K
                    refine norm_ (a' := ?_) ?_ ?_
                    rotate_left
                    · show Act.put _ (some 54) _ = _
                      simp only [Act.put, List.setIfInBounds_toArray, List.set_cons_zero, List.set_cons_succ, i64_w, i32_w]
                      rfl
                    refine pure_ (i := 16) (N := some 55) (v := ?_) (a' := ?_) #[true, true, true, true, true, true, true, true, true, true, true, true, true, true, true, true, true, true, false] rfl rfl (any_of HT_.out (by kernel_rfl)) (fun _ _ _ h => h) (Or.inl ⟨by rfl, ?_⟩) ?_ ?_
                    rotate_left
                    · intro w'
                      go_simp
                      with_reducible rfl
                    rotate_left
                    · simp only [Act.put, List.setIfInBounds_toArray, List.set_cons_zero, List.set_cons_succ, i64_w, i32_w]
                      rfl
                    exact norm_ (by simp only [putAll, Act.put, List.setIfInBounds_toArray, List.set_cons_zero, List.set_cons_succ]) (hCont (v371, .slice Ao66 y377.length co66, gb380) _ ⟨hHeld, (by exact pR HO379.out), (by exact pS (Kd.S_mono HO_4.out (fun _ hk => ⟨hk.2, hk.1⟩))), (by exact pK BK380.out), GW380.out, GE380.out, (by exact pB HB.out)⟩)
                rintro ⟨v371, v378, gb380⟩ w67 ⟨hS_, h0_, h1_, h2_, h3_, h4_, h5_⟩
                have n0_ : Aside0 (Kd.R (Kd.int .u8) 5 w67 w.heap.size (fun _ => True) v378 y377) := ⟨h0_⟩
                have n1_ : Aside0 (Kd.S k43 43 w67 w.heap.size (fun k_ => some k_ ≠ (v378 : Value).ownBlock ∧ k_ ≠ gb380) u4 x4_1) := ⟨h1_⟩
                have n2_ : Aside0 (w67.heap[gb380]? = some (.cells #[.int .i64 0, .slice none 0 0] 43 (0, 0))) := ⟨h2_⟩
                have n3_ : Aside0 (w.heap.size ≤ gb380) := ⟨h3_⟩
                have n4_ : Aside0 (w.heap.size ≤ gb380) := ⟨h4_⟩
                have n5_ : Aside0 (Below w.heap.size w w67) := ⟨h5_⟩
                clear HO_4
                clear HB
                clear h0_ h1_ h2_ h3_ h4_ h5_
                have HO379 := n0_
                have HO_4 := n1_
                have BK380 := n2_
                have GW380 := n3_
                have GE380 := n4_
                have HB := n5_
                clear n0_ n1_ n2_ n3_ n4_ n5_
                have hHeld : w67.cell? (ad367.add ((ji12)).toNat) = some (.int .u8 (rd l0 (ji12))) := hS_
                obtain ⟨Ao68, co68, eo68⟩ := Kd.R_slice HO379.out
                (first | subst eo68 | (injection eo68 with f1_ f2_ f3_; have f4_ := f1_.symm; have f5_ := f3_.symm; clear f1_ f2_ f3_; subst f4_; subst f5_))
                refine norm_ (a' := ?_) ?_ ?_
                rotate_left
                · simp only [putAll, Act.put, List.setIfInBounds_toArray, List.set_cons_zero, List.set_cons_succ]
                  rfl
                refine one_ (i := 18) (N := none) #[true, true, true, true, true, true, true, true, true, true, true, true, true, true, true, true, true, true, true] rfl rfl (one_of HT_.out (by kernel_rfl)) (by decide) (fun K hK => ?_)
                have hs69 : w67.cell? ⟨gb380, 0, none⟩ = some (.int .i64 0) := (blk_cell BK380.out 0).trans rfl
                have hfs69 := blk_frozen BK380.out 0
                have hs70 : w67.cell? ⟨gb380, 1, none⟩ = some (.slice none 0 0) := (blk_cell BK380.out 1).trans rfl
                have hfs70 := blk_frozen BK380.out 1
                refine skip_ (w1 := ?_) (by rfl) rfl ?_ ?_
                rotate_left
                · go_simp
                  rfl
                refine hK.out _ _ (((cell_far (p := ⟨gb380, _, none⟩) (by first | exact Nat.ne_of_lt (Nat.lt_of_lt_of_le (by have := World.block_lt_of_cell? _ _ hw369_0; first | rwa [add_block] at this | exact this) GW380.out) | (rw [add_block]; exact Nat.ne_of_lt (Nat.lt_of_lt_of_le (by have := World.block_lt_of_cell? _ _ hw369_0; first | rwa [add_block] at this | exact this) GW380.out)) | (show (Addr.add _ _).block ≠ _; rw [add_block]; exact Nat.ne_of_lt (Nat.lt_of_lt_of_le (by have := World.block_lt_of_cell? _ _ hw369_0; first | rwa [add_block] at this | exact this) GW380.out)) | (dsimp only; exact Nat.ne_of_lt (Nat.lt_of_lt_of_le (by have := World.block_lt_of_cell? _ _ hw369_0; first | rwa [add_block] at this | exact this) GW380.out))) _).trans (((cell_far (p := ⟨gb380, _, none⟩) (by first | exact Nat.ne_of_lt (Nat.lt_of_lt_of_le (by have := World.block_lt_of_cell? _ _ hw369_0; first | rwa [add_block] at this | exact this) GW380.out) | (rw [add_block]; exact Nat.ne_of_lt (Nat.lt_of_lt_of_le (by have := World.block_lt_of_cell? _ _ hw369_0; first | rwa [add_block] at this | exact this) GW380.out)) | (show (Addr.add _ _).block ≠ _; rw [add_block]; exact Nat.ne_of_lt (Nat.lt_of_lt_of_le (by have := World.block_lt_of_cell? _ _ hw369_0; first | rwa [add_block] at this | exact this) GW380.out)) | (dsimp only; exact Nat.ne_of_lt (Nat.lt_of_lt_of_le (by have := World.block_lt_of_cell? _ _ hw369_0; first | rwa [add_block] at this | exact this) GW380.out))) _).trans (hHeld))))) (fun hHeld => ?_)
                clear hK K
                refine done_ (done_of HT_.out (by kernel_rfl)) ?_
                have hcz71_0 : w67.cell? ⟨gb380, 0, none⟩ = some (.int .i64 0) := (blk_cell BK380.out 0).trans rfl
                have hcz71_1 : w67.cell? ⟨gb380, 1, none⟩ = some (.slice none 0 0) := (blk_cell BK380.out 1).trans rfl
                have hfz71_0 := blk_frozen BK380.out 0
                have hfz71_1 := blk_frozen BK380.out 1
                try go_wp2_with (first | ((with_reducible refine gate_callee (f := 29) rfl ?_); refine goesL_ (some 58) rfl rfl Try.func29 (by kernel_rfl) rfl #[.agg #[.int .i64 (wrap64 (rd l0 (ji12))), .slice Ao68 y377.length co68]] rfl (by (try simp only [List.map_toArray, List.map_cons, List.map_nil]); first | done | (simp only [hji12]; rfl) | rfl | (simp only [List.length_drop, List.length_take]; rfl)) ?_; (with_reducible refine (customsref33_Encode.calls kj7 (wrap64 (rd l0 (ji12))) _ _ y377 t381 t384 _ ?side1 ?side2 A20.out).mono ?_); (case side1 => refine (Kd.R_reads' (e := 5) (base := w.heap.size) (ok := fun k_ => True) (n := y377.length) (c := co68) ?_).2.2; exact (by (with_reducible repeat (first | apply Kd.R_alloc | apply Kd.R_drewN | apply Kd.R_drew)); exact (Kd.R_mono (Kd.R_far (p := ⟨gb380, 1, none⟩) (Kd.R_far (p := ⟨gb380, 0, none⟩) (Kd.R_types HO379.out BK380.out (by decide)) (fun _ hk => hk.2) (.int .i64 (wrap64 (rd l0 (ji12))))) (fun _ hk => hk.2) (.slice Ao68 y377.length co68)) (fun _ h_ => h_.1)))); (case side2 => exact (Kd.R_reads' HO379.out).2.1); rintro e w72 ⟨v382, rfl, ho0, hb⟩; refine ⟨_, rfl, ?_⟩; have n0_ := Aside0.mk (Kd.S_elder' (by (with_reducible repeat (first | apply Kd.S_alloc | apply Kd.S_drewN | apply Kd.S_drew)); exact (Kd.S_mono (Kd.S_far (p := ⟨gb380, 1, none⟩) (Kd.S_far (p := ⟨gb380, 0, none⟩) (Kd.S_mono HO_4.out (fun k_ hk => (⟨hk, hk.2⟩ : _ ∧ k_ ≠ gb380))) (fun _ hk => hk.2) (.int .i64 (wrap64 (rd l0 (ji12))))) (fun _ hk => hk.2) (.slice Ao68 y377.length co68)) (fun _ h_ => h_.1))) (Kd.R_base ho0) hb); have n1_ := Aside0.mk (Kd.R_elder' (by (with_reducible repeat (first | apply Kd.R_alloc | apply Kd.R_drewN | apply Kd.R_drew)); exact (Kd.R_mono (Kd.R_far (p := ⟨gb380, 1, none⟩) (Kd.R_far (p := ⟨gb380, 0, none⟩) (Kd.R_types HO379.out BK380.out (by decide)) (fun _ hk => hk.2) (.int .i64 (wrap64 (rd l0 (ji12))))) (fun _ hk => hk.2) (.slice Ao68 y377.length co68)) (fun _ h_ => h_.1))) (Kd.R_base ho0) hb); have n2_ := Aside0.mk (Kd.R_lower (Kd.R_new' ho0 (Kd.R_lt (by (with_reducible repeat (first | apply Kd.R_alloc | apply Kd.R_drewN | apply Kd.R_drew)); exact (Kd.R_mono (Kd.R_far (p := ⟨gb380, 1, none⟩) (Kd.R_far (p := ⟨gb380, 0, none⟩) (Kd.R_types HO379.out BK380.out (by decide)) (fun _ hk => hk.2) (.int .i64 (wrap64 (rd l0 (ji12))))) (fun _ hk => hk.2) (.slice Ao68 y377.length co68)) (fun _ h_ => h_.1))))) (below_size (by repeat (first | (with_reducible first | exact HB.out | apply below_alloc | apply pw_below_drewN | apply below_drew1 | refine below_set ?_ GE380.out) | exact HB.out)))); have n3_ := Aside0.mk (blk_below (g := gb380) (o := .cells #[.int .i64 (wrap64 (rd l0 (ji12))), .slice Ao68 y377.length co68] 43 (0, 0)) (by (with_reducible repeat (first | refine blk_drewN ?_ _ | refine blk_drew ?_ | refine blk_alloc ?_ _)); refine blk_put (cs := #[.int .i64 (wrap64 (rd l0 (ji12))), .slice none 0 0]) ?_ 1 _ rfl; (with_reducible repeat (first | refine blk_drewN ?_ _ | refine blk_drew ?_ | refine blk_alloc ?_ _)); refine blk_put (cs := #[.int .i64 0, .slice none 0 0]) ?_ 0 _ rfl; (with_reducible repeat (first | refine blk_drewN ?_ _ | refine blk_drew ?_ | refine blk_alloc ?_ _)); exact BK380.out) hb); have n4_ := Aside0.mk (below_step (by repeat (first | (with_reducible first | exact HB.out | apply below_alloc | apply pw_below_drewN | apply below_drew1 | refine below_set ?_ GE380.out) | exact HB.out)) hb); clear HO_4; clear HO379; clear BK380; clear HB; have HO_4 := n0_; have HO379 := n1_; have HO383 := n2_; have BK380 := n3_; have HB := n4_; clear n0_ n1_ n2_ n3_ n4_; (try clear hb); (try clear hb2); (try clear hk); (try clear hi); (try clear ho0)))
                go_ret2
                exact ⟨_, by first | rfl | (simp [errW_none, errW_some] <;> rfl) | (simp only [← hji5, ← hji12, ← hji15]; first | rfl | (simp [errW_none, errW_some] <;> rfl)) | (simp [*, errW_none, errW_some] <;> rfl), by exact pS (Kd.S_mono HO_4.out (fun _ hk => trivial)), by exact pB HB.out⟩
      · rw [if_neg c2] at H
        have c2b0 : decide ((wrap64 (x5_1 + 9)) ≤ (l0.length : Int)) = false := decide_eq_false c2
        clear c2
        simp only [Option.some.injEq, Prod.mk.injEq] at H
        obtain ⟨rfl, rfl⟩ := H
        go_wp2
        go_ret2
        exact ⟨_, by first | rfl | (simp [errW_none, errW_some] <;> rfl) | (simp [*, errW_none, errW_some] <;> rfl), by exact pS HO_4.out, by exact pB HB.out⟩

end Go.Proofs.Ythnlepmfjhhgfaa.PJournalOpen
