-- Printed by a patched copy of the kit's printer (wip/prt); nothing here is trusted, Lean checks it.
import Derived.Test.YthnlepmfjhhgfaaPJournalOpenx0
import Derived.Test.YthnlepmfjhhgfaaPJournalOpenx1
import Derived.Test.YthnlepmfjhhgfaaPJournalOpenx2
namespace Go.Proofs.Ythnlepmfjhhgfaa.PJournalOpen
open Go.RowKit Go.Proofs.YthnlepmfjhhgfaaW.PrintWords Go.Proofs.YthnlepmfjhhgfaaW.PrintLast Go.Proofs.YthnlepmfjhhgfaaW.PrintMore
attribute [local go_sem] max2_int min2_int max_two min_two max_three min_three max_four min_four   -- for this text's walks alone
set_option linter.unusedVariables false
set_option linter.unusedSimpArgs false

/-! ### journal_Scan: function 30 -/
mutual
def journal_Scan.l0 : Nat → List Int → List (S43) → Int → Option ((List (S43)) × Int)
  | 0, _, _, _ => none
  | k + 1, x0, x4, x5 => if 0 ≤ x5 then (if x5 ≤ (x0.length : Int) then ((some (x0.drop (x5 : Int).toNat : List Int)).bind fun y200 => (if (y200.length : Int) < 9 then (some (x4, x5)) else (if 2 ≤ (y200.length : Int) then ((journal_number.f k (y200.take 2)).bind fun t208 => (if 4 < (y200.length : Int) then (if 2 ≤ 4 then (if 4 ≤ (y200.length : Int) then ((journal_number.f k ((y200.take 4).drop 2)).bind fun t214 => (if (wrap64 (t208 + t214)) = 65535 then ((journal_validKind.f (wrap64 (rd y200 4))).bind fun t215 => (if t215 = true then (journal_Scan.j1 k x0 x4 x5 y200 (wrap64 (rd y200 4)) (wrap64 (5 + t208)) (decide (t208 > 60000))) else (journal_Scan.j1 k x0 x4 x5 y200 (wrap64 (rd y200 4)) (wrap64 (5 + t208)) (!t215)))) else (journal_Scan.j1 k x0 x4 x5 y200 (wrap64 (rd y200 4)) (wrap64 (5 + t208)) ((wrap64 (t208 + t214)) != 65535)))) else (none)) else (none)) else (none))) else (none)))) else (none)) else (none)
def journal_Scan.j1 : Nat → List Int → List (S43) → Int → List Int → Int → Int → Bool → Option ((List (S43)) × Int)
  | 0, _, _, _, _, _, _, _ => none
  | k + 1, x0, x4, x5, x6, x8, x9, x25 => if x25 = true then (some (x4, x5)) else (if (x6.length : Int) < (wrap64 (x9 + 4)) then (some (x4, x5)) else (if 0 ≤ x9 then (if x9 ≤ (x6.length : Int) then ((message_Checksum.f k (x6.take (x9 : Int).toNat)).bind fun t220 => (if x9 ≤ (wrap64 (x9 + 4)) then (if (wrap64 (x9 + 4)) ≤ (x6.length : Int) then ((journal_number.f k ((x6.take ((wrap64 (x9 + 4)) : Int).toNat).drop (x9 : Int).toNat)).bind fun t225 => (if t220 = t225 then (if 5 ≤ x9 then ((slices_Clone_byte_byte.f ((x6.take (x9 : Int).toNat).drop 5)).bind fun t230 => (if x4.length < 4398046511104 then (journal_Scan.l0 k x0 (x4 ++ [(⟨x8, t230⟩ : S43)]) (wrap64 (x5 + (wrap64 (x9 + 4))))) else (none))) else (none)) else (some (x4, x5)))) else (none)) else (none))) else (none)) else (none)))
end
def journal_Scan.f (k : Nat) (l0 : List Int) : Option ((List (S43)) × Int) := journal_Scan.l0 k l0 ([] : List (S43)) 0
theorem journal_Scan.mono_l : ∀ k, (∀ y0 y1 y2, LeO (journal_Scan.l0 k y0 y1 y2) (journal_Scan.l0 (k + 1) y0 y1 y2)) ∧ (∀ y0 y1 y2 y3 y4 y5 y6, LeO (journal_Scan.j1 k y0 y1 y2 y3 y4 y5 y6) (journal_Scan.j1 (k + 1) y0 y1 y2 y3 y4 y5 y6))
  | 0 => ⟨fun _ _ _ r h => by simp [journal_Scan.l0] at h, fun _ _ _ _ _ _ _ r h => by simp [journal_Scan.j1] at h⟩
  | k + 1 => by
    obtain ⟨ih0, ih1⟩ := journal_Scan.mono_l k
    refine ⟨?_, ?_⟩
    · intro y0 y1 y2
      unfold journal_Scan.l0
      repeat' first
      | (with_reducible exact ih0 _ _ _)
      | (with_reducible exact ih1 _ _ _ _ _ _ _)
      | (with_reducible exact journal_number.mono _ _)
      | (with_reducible exact message_Checksum.mono _ _)
      | (with_reducible exact LeO.refl _)
      | (with_reducible exact LeO.none _)
      | (with_reducible refine LeO.ite ?_ ?_)
      | (with_reducible refine LeO.bind ?_ (fun _ => ?_))
      | exact ih0 _ _ _
      | exact ih1 _ _ _ _ _ _ _
      | exact journal_number.mono _ _
      | exact message_Checksum.mono _ _
      | exact LeO.none _
      | refine LeO.ite ?_ ?_
      | refine LeO.bind ?_ (fun _ => ?_)
    · intro y0 y1 y2 y3 y4 y5 y6
      unfold journal_Scan.j1
      repeat' first
      | (with_reducible exact ih0 _ _ _)
      | (with_reducible exact ih1 _ _ _ _ _ _ _)
      | (with_reducible exact journal_number.mono _ _)
      | (with_reducible exact message_Checksum.mono _ _)
      | (with_reducible exact LeO.refl _)
      | (with_reducible exact LeO.none _)
      | (with_reducible refine LeO.ite ?_ ?_)
      | (with_reducible refine LeO.bind ?_ (fun _ => ?_))
      | exact ih0 _ _ _
      | exact ih1 _ _ _ _ _ _ _
      | exact journal_number.mono _ _
      | exact message_Checksum.mono _ _
      | exact LeO.none _
      | refine LeO.ite ?_ ?_
      | refine LeO.bind ?_ (fun _ => ?_)
theorem journal_Scan.mono : ∀ a0 k, LeO (journal_Scan.f k a0) (journal_Scan.f (k + 1) a0) := by
  intro a0 k
  obtain ⟨ih0, ih1⟩ := journal_Scan.mono_l k
  unfold journal_Scan.f
  repeat' first
      | (with_reducible exact ih0 _ _ _)
      | (with_reducible exact ih1 _ _ _ _ _ _ _)
      | (with_reducible exact journal_number.mono _ _)
      | (with_reducible exact message_Checksum.mono _ _)
      | (with_reducible exact LeO.refl _)
      | (with_reducible exact LeO.none _)
      | (with_reducible refine LeO.ite ?_ ?_)
      | (with_reducible refine LeO.bind ?_ (fun _ => ?_))
      | exact ih0 _ _ _
      | exact ih1 _ _ _ _ _ _ _
      | exact journal_number.mono _ _
      | exact message_Checksum.mono _ _
      | exact LeO.none _
      | refine LeO.ite ?_ ?_
      | refine LeO.bind ?_ (fun _ => ?_)
def journal_Scan.T5 : Bool × List (List Nat × List Nat) := (true, [([], []), ([0], [0]), ([1], [1]), ([], []), ([3], [3]), ([4], [4]), ([5], [5]), ([2, 2, 0, 1, 2], [2]), ([6, 7, 0, 1, 2, 3, 4, 5, 6, 7], [6])])
def journal_Scan.B5 : List Nat := [0, 1, 3, 0, 8, 24, 56, 7, 255]
theorem journal_Scan.tab5 : rtab .any (opsOf Try.f30 5) = journal_Scan.T5 := by kernel_rfl
theorem journal_Scan.bits5 : waitsOk journal_Scan.T5.2 journal_Scan.B5 = true := by kernel_rfl
def journal_Scan.T11 : Bool × List (List Nat × List Nat) := (true, [([], []), ([], []), ([0, 1], [0, 1]), ([2], [2]), ([], []), ([], []), ([], []), ([6], [6]), ([4, 5, 7], [4, 5, 7]), ([8, 3], [8]), ([3, 9], [3, 9]), ([10, 9], [10])])
def journal_Scan.B11 : List Nat := [0, 0, 3, 7, 0, 0, 0, 64, 240, 511, 1023, 2047]
theorem journal_Scan.tab11 : rtab .any (opsOf Try.f30 11) = journal_Scan.T11 := by kernel_rfl
theorem journal_Scan.bits11 : waitsOk journal_Scan.T11.2 journal_Scan.B11 = true := by kernel_rfl
set_option maxHeartbeats 8000000 in
set_option maxRecDepth 100000 in
theorem journal_Scan.calls (k : Nat) (A0 : Option Addr) (c0 : Nat) (l0 : List Int) (r1 : List (S43)) (r2 : Int) (w : World) (hr0 : Kd.C (Kd.int .u8) w A0 l0.length l0) (hc0 : l0.length ≤ c0) (h : journal_Scan.f k l0 = some (r1, r2)) :
    Calls Try.prog 30 #[.slice A0 l0.length c0] w fun e w' => ∃ v0_ : Value, e = .returned (.tuple #[v0_, .int .i64 r2]) ∧ Kd.S k43 43 w' w.heap.size (fun _ => True) v0_ r1 ∧ Below w.heap.size w w' := by
  have hu43 := Try.underlying43
  have HR0 := Aside0.mk hr0
  have HC0 := Aside0.mk hc0
  clear hr0 hc0
  have HB := Aside0.mk (Below.refl w.heap.size w)
  have H : (journal_Scan.l0 k l0 ([] : List (S43)) 0) = some (r1, r2) := h
  clear h
  have H' := Aside0.mk H
  clear H
  go_enter Try.func30, Try.ntmps30
  go_wp2
  repeat (go_step3; go_wp2)
  go_loopg [4, 5] k (fun kq v4 v5 w' => ∃ (x4_1 : List (S43)) (x5_1 : Int), v5 = .int .i64 x5_1 ∧ Aside0 (journal_Scan.l0 kq l0 x4_1 x5_1 = some (r1, r2)) ∧ Aside0 (kq ≤ k) ∧ Aside0 (Kd.S k43 43 w' w.heap.size (fun _ => True) v4 x4_1) ∧ Aside0 (Below w.heap.size w w'))
  case atStart => exact ⟨(([] : List (S43))), (0), (by first | rfl | (simp; done) | (simp [*]; done)), H', ⟨Nat.le_refl _⟩, ⟨by first | exact Kd.S_nil _ _ _ _ _ | exact Kd.N_nil _ _ _ _ _ | exact Kd.V_nil _ _ _ _ _ | exact Kd.Q_nil _ _ _ _ _ | exact Kd.R_nil _ _ _ _ _⟩, ⟨by exact pB HB.out⟩⟩
  case round =>
    clear H'
    obtain ⟨x4_1, x5_1, rfl, HA, HK1, HO_4, HB⟩ := hrel
    cases gk with
    | zero => exact absurd HA.out (by simp [journal_Scan.l0])
    | succ k1 =>
      have H := HA.out
      clear HA
      simp only [journal_Scan.l0] at H
      have c2 : 0 ≤ x5_1 := by
        refine Classical.byContradiction fun c2 => ?_
        rw [if_neg c2] at H
        exact absurd H (by simp)
      rw [if_pos c2] at H
      have c2b0 := eq_true c2
      have c2b1 : decide (0 ≤ x5_1) = true := decide_eq_true c2
      clear c2
      have c3 : x5_1 ≤ (l0.length : Int) := by
        refine Classical.byContradiction fun c3 => ?_
        rw [if_neg c3] at H
        exact absurd H (by simp)
      rw [if_pos c3] at H
      have c3b0 := eq_true c3
      have c3b1 : decide (x5_1 ≤ (l0.length : Int)) = true := decide_eq_true c3
      clear c3
      obtain ⟨y200, hy200⟩ : ∃ y_ : List Int, y_ = (l0.drop (x5_1 : Int).toNat) := ⟨_, rfl⟩
      replace H : (if (y200.length : Int) < 9 then (some (x4_1, x5_1)) else (if 2 ≤ (y200.length : Int) then ((journal_number.f k1 (y200.take 2)).bind fun t208 => (if 4 < (y200.length : Int) then (if 2 ≤ 4 then (if 4 ≤ (y200.length : Int) then ((journal_number.f k1 ((y200.take 4).drop 2)).bind fun t214 => (if (wrap64 (t208 + t214)) = 65535 then ((journal_validKind.f (wrap64 (rd y200 4))).bind fun t215 => (if t215 = true then (journal_Scan.j1 k1 l0 x4_1 x5_1 y200 (wrap64 (rd y200 4)) (wrap64 (5 + t208)) (decide (t208 > 60000))) else (journal_Scan.j1 k1 l0 x4_1 x5_1 y200 (wrap64 (rd y200 4)) (wrap64 (5 + t208)) (!t215)))) else (journal_Scan.j1 k1 l0 x4_1 x5_1 y200 (wrap64 (rd y200 4)) (wrap64 (5 + t208)) ((wrap64 (t208 + t214)) != 65535)))) else (none)) else (none)) else (none))) else (none))) = some (r1, r2) := by first | (rw [hy200]; with_reducible exact H) | (have H2_ := (Option.bind_some _ _).symm.trans H; rw [hy200]; with_reducible exact H2_) | (have H2_ := (Option.bind_some _ _).symm.trans H; with_reducible exact H2_) | with_reducible exact H | (rw [hy200]; exact H) | exact H
      have Ny200 := Aside0.mk hy200
      clear hy200
      by_cases c4 : (y200.length : Int) < 9
      · rw [if_pos c4] at H
        have c4b0 : decide ((y200.length : Int) < 9) = true := decide_eq_true c4
        have c4b1 : decide (y200.length < 9) = true := decide_eq_true (by omega)
        clear c4
        simp only [Option.some.injEq, Prod.mk.injEq] at H
        obtain ⟨rfl, rfl⟩ := H
        have q5 : (x5_1 : Int) ≤ ((l0.length : Int) : Int) := of_decide_eq_true (by first | (with_reducible assumption) | assumption)
        obtain ⟨i05, hi05, _, hsz5, _⟩ := info_parts info5
        have hroom5 : l0.length ≤ c0 := HC0.out
        have hC5 : Kd.C (Kd.int .u8) _ A0 l0.length l0 := HR0.out
        have q05 : (0 : Int) ≤ (x5_1 : Int) := of_decide_eq_true (by first | (with_reducible assumption) | assumption)
        have hcut5 := cut_from (P := Try.prog) 22 5 .i64 Try.underlying22 hi05 1 hsz5 A0 l0.length c0 x5_1 q05 q5
        have hr5 := Kd.C_drop (m := (x5_1 : Int).toNat) (c := c0) hC5 (by omega) hroom5
        obtain ⟨A5, hA5⟩ : ∃ A1, A1 = (if c0 = (x5_1 : Int).toNat then A0 else (A0 : Option Addr).map (·.add ((x5_1 : Int).toNat * 1))) := ⟨_, rfl⟩
        obtain ⟨c5, hc5⟩ : ∃ c1, c1 = c0 - (x5_1 : Int).toNat := ⟨_, rfl⟩
        have hy5 : y200.length = l0.length - (x5_1 : Int).toNat := (by rw [Ny200.out, List.length_drop] <;> omega)
        rw [show (l0).drop (x5_1 : Int).toNat = y200 from Ny200.out.symm] at hr5
        replace hr5 : Kd.C (Kd.int .u8) _ A5 y200.length y200 := (by rw [hA5]; exact hr5)
        rw [← hy5, ← hA5, ← hc5] at hcut5
        have HR203 := Aside0.mk hr5
        have HC203 := Aside0.mk (show y200.length ≤ c5 from by rw [hy5, hc5]; exact Nat.sub_le_sub_right hroom5 _)
        clear hr5 hC5 hroom5 hi05 hsz5 hc5
        have KY5 := Aside0.mk hy5
        have KA5 := Aside0.mk hA5
        clear hy5 hA5
        replace q5 := eq_true q5
        go_wp2
        (try rw [Exit.noGoto_ret])
        go_ret2
        exact ⟨_, by first | rfl | (simp [errW_none, errW_some] <;> rfl) | (simp [*, errW_none, errW_some] <;> rfl), by exact pS HO_4.out, by exact pB HB.out⟩
      · rw [if_neg c4] at H
        have c4b0 : decide ((y200.length : Int) < 9) = false := decide_eq_false c4
        have c4b1 : decide (y200.length < 9) = false := decide_eq_false (by omega)
        clear c4
        have c6 : 2 ≤ (y200.length : Int) := by
          refine Classical.byContradiction fun c6 => ?_
          rw [if_neg c6] at H
          exact absurd H (by simp)
        rw [if_pos c6] at H
        have c6b0 := eq_true c6
        have c6b1 : decide (2 ≤ (y200.length : Int)) = true := decide_eq_true c6
        clear c6
        obtain ⟨y204, hy204⟩ : ∃ y_ : List Int, y_ = (y200.take 2) := ⟨_, rfl⟩
        replace H : ((journal_number.f k1 y204).bind fun t208 => (if 4 < (y200.length : Int) then (if 2 ≤ 4 then (if 4 ≤ (y200.length : Int) then ((journal_number.f k1 ((y200.take 4).drop 2)).bind fun t214 => (if (wrap64 (t208 + t214)) = 65535 then ((journal_validKind.f (wrap64 (rd y200 4))).bind fun t215 => (if t215 = true then (journal_Scan.j1 k1 l0 x4_1 x5_1 y200 (wrap64 (rd y200 4)) (wrap64 (5 + t208)) (decide (t208 > 60000))) else (journal_Scan.j1 k1 l0 x4_1 x5_1 y200 (wrap64 (rd y200 4)) (wrap64 (5 + t208)) (!t215)))) else (journal_Scan.j1 k1 l0 x4_1 x5_1 y200 (wrap64 (rd y200 4)) (wrap64 (5 + t208)) ((wrap64 (t208 + t214)) != 65535)))) else (none)) else (none)) else (none))) = some (r1, r2) := by first | (rw [hy204]; with_reducible exact H) | (have H2_ := (Option.bind_some _ _).symm.trans H; rw [hy204]; with_reducible exact H2_) | (have H2_ := (Option.bind_some _ _).symm.trans H; with_reducible exact H2_) | with_reducible exact H | (rw [hy204]; exact H) | exact H
        have Ny204 := Aside0.mk hy204
        clear hy204
        replace H := Option.bind_eq_some_iff.mp H
        obtain ⟨t208, A70, H⟩ := H
        replace H : (if 4 < (y200.length : Int) then (if 2 ≤ 4 then (if 4 ≤ (y200.length : Int) then ((journal_number.f k1 ((y200.take 4).drop 2)).bind fun t214 => (if (wrap64 (t208 + t214)) = 65535 then ((journal_validKind.f (wrap64 (rd y200 4))).bind fun t215 => (if t215 = true then (journal_Scan.j1 k1 l0 x4_1 x5_1 y200 (wrap64 (rd y200 4)) (wrap64 (5 + t208)) (decide (t208 > 60000))) else (journal_Scan.j1 k1 l0 x4_1 x5_1 y200 (wrap64 (rd y200 4)) (wrap64 (5 + t208)) (!t215)))) else (journal_Scan.j1 k1 l0 x4_1 x5_1 y200 (wrap64 (rd y200 4)) (wrap64 (5 + t208)) ((wrap64 (t208 + t214)) != 65535)))) else (none)) else (none)) else (none)) = some (r1, r2) := H
        have A7 := Aside0.mk A70
        clear A70
        have c8 : 4 < (y200.length : Int) := by
          refine Classical.byContradiction fun c8 => ?_
          rw [if_neg c8] at H
          exact absurd H (by simp)
        rw [if_pos c8] at H
        have c8b0 : decide (4 < (y200.length : Int)) = true := decide_eq_true c8
        have c8b1 : decide (4 < y200.length) = true := decide_eq_true (by omega)
        clear c8
        have c9 : 2 ≤ 4 := by
          refine Classical.byContradiction fun c9 => ?_
          rw [if_neg c9] at H
          exact absurd H (by simp)
        rw [if_pos c9] at H
        have c9b0 := eq_true c9
        have c9b1 : decide (2 ≤ 4) = true := decide_eq_true c9
        clear c9
        have c10 : 4 ≤ (y200.length : Int) := by
          refine Classical.byContradiction fun c10 => ?_
          rw [if_neg c10] at H
          exact absurd H (by simp)
        rw [if_pos c10] at H
        have c10b0 := eq_true c10
        have c10b1 : decide (4 ≤ (y200.length : Int)) = true := decide_eq_true c10
        clear c10
        obtain ⟨y210, hy210⟩ : ∃ y_ : List Int, y_ = ((y200.take 4).drop 2) := ⟨_, rfl⟩
        replace H : ((journal_number.f k1 y210).bind fun t214 => (if (wrap64 (t208 + t214)) = 65535 then ((journal_validKind.f (wrap64 (rd y200 4))).bind fun t215 => (if t215 = true then (journal_Scan.j1 k1 l0 x4_1 x5_1 y200 (wrap64 (rd y200 4)) (wrap64 (5 + t208)) (decide (t208 > 60000))) else (journal_Scan.j1 k1 l0 x4_1 x5_1 y200 (wrap64 (rd y200 4)) (wrap64 (5 + t208)) (!t215)))) else (journal_Scan.j1 k1 l0 x4_1 x5_1 y200 (wrap64 (rd y200 4)) (wrap64 (5 + t208)) ((wrap64 (t208 + t214)) != 65535)))) = some (r1, r2) := by first | (rw [hy210]; with_reducible exact H) | (have H2_ := (Option.bind_some _ _).symm.trans H; rw [hy210]; with_reducible exact H2_) | (have H2_ := (Option.bind_some _ _).symm.trans H; with_reducible exact H2_) | with_reducible exact H | (rw [hy210]; exact H) | exact H
        have Ny210 := Aside0.mk hy210
        clear hy210
        replace H := Option.bind_eq_some_iff.mp H
        obtain ⟨t214, A110, H⟩ := H
        replace H : (if (wrap64 (t208 + t214)) = 65535 then ((journal_validKind.f (wrap64 (rd y200 4))).bind fun t215 => (if t215 = true then (journal_Scan.j1 k1 l0 x4_1 x5_1 y200 (wrap64 (rd y200 4)) (wrap64 (5 + t208)) (decide (t208 > 60000))) else (journal_Scan.j1 k1 l0 x4_1 x5_1 y200 (wrap64 (rd y200 4)) (wrap64 (5 + t208)) (!t215)))) else (journal_Scan.j1 k1 l0 x4_1 x5_1 y200 (wrap64 (rd y200 4)) (wrap64 (5 + t208)) ((wrap64 (t208 + t214)) != 65535))) = some (r1, r2) := H
        have A11 := Aside0.mk A110
        clear A110
        have HC12 := Aside0.mk H
        clear H
        have q13 : (x5_1 : Int) ≤ ((l0.length : Int) : Int) := of_decide_eq_true (by first | (with_reducible assumption) | assumption)
        obtain ⟨i013, hi013, _, hsz13, _⟩ := info_parts info5
        have hroom13 : l0.length ≤ c0 := HC0.out
        have hC13 : Kd.C (Kd.int .u8) _ A0 l0.length l0 := HR0.out
        have q013 : (0 : Int) ≤ (x5_1 : Int) := of_decide_eq_true (by first | (with_reducible assumption) | assumption)
        have hcut13 := cut_from (P := Try.prog) 22 5 .i64 Try.underlying22 hi013 1 hsz13 A0 l0.length c0 x5_1 q013 q13
        have hr13 := Kd.C_drop (m := (x5_1 : Int).toNat) (c := c0) hC13 (by omega) hroom13
        obtain ⟨A13, hA13⟩ : ∃ A1, A1 = (if c0 = (x5_1 : Int).toNat then A0 else (A0 : Option Addr).map (·.add ((x5_1 : Int).toNat * 1))) := ⟨_, rfl⟩
        obtain ⟨c13, hc13⟩ : ∃ c1, c1 = c0 - (x5_1 : Int).toNat := ⟨_, rfl⟩
        have hy13 : y200.length = l0.length - (x5_1 : Int).toNat := (by rw [Ny200.out, List.length_drop] <;> omega)
        rw [show (l0).drop (x5_1 : Int).toNat = y200 from Ny200.out.symm] at hr13
        replace hr13 : Kd.C (Kd.int .u8) _ A13 y200.length y200 := (by rw [hA13]; exact hr13)
        rw [← hy13, ← hA13, ← hc13] at hcut13
        have HR203 := Aside0.mk hr13
        have HC203 := Aside0.mk (show y200.length ≤ c13 from by rw [hy13, hc13]; exact Nat.sub_le_sub_right hroom13 _)
        clear hr13 hC13 hroom13 hi013 hsz13 hc13
        have KY13 := Aside0.mk hy13
        have KA13 := Aside0.mk hA13
        clear hy13 hA13
        replace q13 := eq_true q13
        try go_wp2
        have n0_ := Aside0.mk (Kd.S_drew HO_4.out)
        have n1_ := Aside0.mk (below_drew1 HB.out)
        clear HO_4
        clear HB
        have HO_4 := n0_
        have HB := n1_
        clear n0_ n1_
        have q15 : (2 : Int) ≤ ((y200.length : Int) : Int) := of_decide_eq_true (by first | (with_reducible assumption) | assumption)
        obtain ⟨i015, hi015, _, hsz15, _⟩ := info_parts info5
        have hroom15 : y200.length ≤ c13 := HC203.out
        have hC15 : Kd.C (Kd.int .u8) _ A13 y200.length y200 := HR203.out
        have hcut15 := cut_to (P := Try.prog) 22 5 .i64 Try.underlying22 hi015 A13 y200.length c13 2 (by omega) q15 hroom15
        have hr15 := Kd.C_take (m := 2) hC15 (by omega)
        have hy15 : y204.length = (2 : Int).toNat := (by rw [Ny204.out, List.length_take]; omega)
        rw [← Ny204.out] at hr15
        rw [← hy15] at hcut15
        have HR207 := Aside0.mk hr15
        have HC207 := Aside0.mk (show y204.length ≤ c13 from by omega)
        clear hr15 hC15 hroom15 hi015 hsz15
        have KY15 := Aside0.mk hy15
        clear hy15
        replace q15 := eq_true q15
        have p209 : 0 ≤ (4 : Int) := (by omega)
        have q209 : 4 < (y200.length : Int) := of_decide_eq_true (by first | (with_reducible assumption) | assumption)
        obtain ⟨ad209, e209, hx209_0⟩ := Kd.at_int HR203.out 4 p209 q209
        have hw209_0 := hx209_0
        (try rw [show ((4 : Int)).toNat = 4 from rfl] at hw209_0)
        (try rw [show 4 * 1 = 4 from rfl] at hw209_0)
        (try simp only [Nat.reduceMul, Nat.reduceEqDiff, Go.Addr.add, ↓reduceIte] at hw209_0)
        cases e209
        (try simp only [show (4 : Int).toNat = 4 from rfl, Nat.reduceMul, Nat.reduceEqDiff, Go.Addr.add, ↓reduceIte] at hx209_0)
        have qi209 : (4 < y200.length) = True := eq_true (by omega)
        (try rw [show ((4 : Int)).toNat = 4 from rfl] at hx209_0)
        replace hx209_0 := (HB.out.cell (World.block_lt_of_cell? w _ hx209_0)).trans hx209_0
        replace p209 := eq_true p209
        replace q209 := eq_true q209
        refine start_ (n := 9) (S := fun w' => w'.cell? ⟨ad209.block, ad209.off + 4, none⟩ = some (.int .u8 (rd y200 4))) (ds := []) #[false, false, false, false, false, false, false, false, false] (by kernel_rfl) rfl rfl (((HB.out.cell (World.block_lt_of_cell? w _ hw209_0)).trans hw209_0)) (fun hHeld => ?_); refine with_tabW journal_Scan.tab5 journal_Scan.bits5 (fun HT_ HW_ => ?_)
        generalize wr.drew = w14 at HO_4 HB HR207 hx209_0 hHeld ⊢
        refine pure_ (i := 0) (N := some 16) (v := ?_) (a' := ?_) #[true, false, false, false, false, false, false, false, false] rfl rfl (any_of HT_.out (by kernel_rfl)) (fun _ _ _ h => h) (Or.inl ⟨by rfl, ?_⟩) ?_ ?_
        rotate_left
        · intro w'
          go_simp
          with_reducible rfl
        rotate_left
        · simp only [Act.put, List.setIfInBounds_toArray, List.set_cons_zero, List.set_cons_succ, i64_w, i32_w]
          rfl
        refine pure_ (i := 1) (N := some 17) (v := ?_) (a' := ?_) #[true, true, false, false, false, false, false, false, false] rfl rfl (any_of HT_.out (by kernel_rfl)) (fun _ _ _ h => h) (Or.inl ⟨by rfl, ?_⟩) ?_ ?_
        rotate_left
        · intro w'
          go_simp
          with_reducible rfl
        rotate_left
        · simp only [Act.put, List.setIfInBounds_toArray, List.set_cons_zero, List.set_cons_succ, i64_w, i32_w]
          rfl
        refine pure_ (i := 3) (N := some 19) (v := ?_) (a' := ?_) #[true, true, false, true, false, false, false, false, false] rfl rfl (any_of HT_.out (by kernel_rfl)) (fun _ _ _ h => h) (Or.inl ⟨by rfl, ?_⟩) ?_ ?_
        rotate_left
        · intro w'
          go_simp
          with_reducible rfl
        rotate_left
        · simp only [Act.put, List.setIfInBounds_toArray, List.set_cons_zero, List.set_cons_succ, i64_w, i32_w]
          rfl
        refine pure_ (i := 4) (N := some 20) (v := ?_) (a' := ?_) #[true, true, false, true, true, false, false, false, false] rfl rfl (any_of HT_.out (by kernel_rfl)) (fun _ _ _ h => h) (Or.inl ⟨by rfl, ?_⟩) ?_ ?_
        rotate_left
        · intro w'
          go_simp
          with_reducible rfl
        rotate_left
        · simp only [Act.put, List.setIfInBounds_toArray, List.set_cons_zero, List.set_cons_succ, i64_w, i32_w]
          rfl
        refine take_ (i := 5) (N := some 21) (v := ?_) (a' := ?_) #[true, true, false, true, true, true, false, false, false] rfl rfl (take_ofW HT_.out HW_.out (by kernel_rfl)) (fun _ _ _ h => h) (Or.inl ⟨by rfl, ?_⟩) hHeld ?_ ?_
        rotate_left
        · intro w' s0
          go_simp
          with_reducible rfl
        rotate_left
        · simp only [Act.put, List.setIfInBounds_toArray, List.set_cons_zero, List.set_cons_succ, i64_w, i32_w]
          rfl
        refine pure_ (i := 6) (N := some 22) (v := ?_) (a' := ?_) #[true, true, false, true, true, true, true, false, false] rfl rfl (any_of HT_.out (by kernel_rfl)) (fun _ _ _ h => h) (Or.inl ⟨by rfl, ?_⟩) ?_ ?_
        rotate_left
        · intro w'
          go_simp
          with_reducible rfl
        rotate_left
        · simp only [Act.put, List.setIfInBounds_toArray, List.set_cons_zero, List.set_cons_succ, i64_w, i32_w]
          rfl
        refine one_ (i := 2) (N := some 18) #[true, true, true, true, true, true, true, false, false] rfl rfl (one_of HT_.out (by kernel_rfl)) (by decide) (fun K hK => ?_)
        refine goes_ Try.func45 (by kernel_rfl) rfl #[.slice (some ad209) y204.length c13] (by rfl) rfl rfl (by (try simp only [List.map_toArray, List.map_cons, List.map_nil]); first | done | rfl | (simp only [List.length_drop, List.length_take]; rfl)) ?_
        with_reducible refine (journal_number.calls k1 _ _ y204 t208 _ ?side1 ?side2 A7.out).mono ?_
        (case side1 => exact pC (Kd.C_below HR207.out HB.out))
        (case side2 => exact HC207.out)
        rintro e w' ⟨rfl, ⟨nd, rfl⟩⟩
        refine ⟨_, rfl, ?_⟩
        refine hK.out _ _ (((HB.out.cell (World.block_lt_of_cell? w _ hw209_0)).trans hw209_0)) (fun hHeld => ?_)
        clear hK K
        refine norm_ (a' := ?_) ?_ ?_
        rotate_left
        · show Act.put _ (some 18) _ = _
          simp only [Act.put, List.setIfInBounds_toArray, List.set_cons_zero, List.set_cons_succ, i64_w, i32_w]
          rfl
        refine pure_ (i := 7) (N := some 7) (v := ?_) (a' := ?_) #[true, true, true, true, true, true, true, true, false] rfl rfl (any_of HT_.out (by kernel_rfl)) (fun _ _ _ h => h) (Or.inl ⟨by rfl, ?_⟩) ?_ ?_
        rotate_left
        · intro w'
          go_simp
          with_reducible rfl
        rotate_left
        · simp only [Act.put, List.setIfInBounds_toArray, List.set_cons_zero, List.set_cons_succ, i64_w, i32_w]
          rfl
        refine pure_ (i := 8) (N := some 8) (v := ?_) (a' := ?_) #[true, true, true, true, true, true, true, true, true] rfl rfl (any_of HT_.out (by kernel_rfl)) (fun _ _ _ h => h) (Or.inl ⟨by rfl, ?_⟩) ?_ ?_
        rotate_left
        · intro w'
          go_simp
          with_reducible rfl
        rotate_left
        · simp only [Act.put, List.setIfInBounds_toArray, List.set_cons_zero, List.set_cons_succ, i64_w, i32_w]
          rfl
        refine done_ (done_of HT_.out (by kernel_rfl)) ?_
        have q16 : (4 : Int) ≤ ((y200.length : Int) : Int) := of_decide_eq_true (by first | (with_reducible assumption) | assumption)
        obtain ⟨i016, hi016, _, hsz16, _⟩ := info_parts info5
        have hroom16 : y200.length ≤ c13 := HC203.out
        have hC16 : Kd.C (Kd.int .u8) _ (some ad209) y200.length y200 := HR203.out
        have ql16 : (2 : Int) ≤ (4 : Int) := (by omega)
        have hcut16 := cut_mid (P := Try.prog) 22 5 .i64 .i64 Try.underlying22 hi016 1 hsz16 (some ad209) y200.length c13 2 4 (by omega) ql16 q16 hroom16
        have hr16 := Kd.C_mid (lo := (2 : Int).toNat) (hi := (4 : Int).toNat) (c := c13) hC16 (by omega) (by omega) hroom16
        obtain ⟨A16, hA16⟩ : ∃ A1, A1 = (if c13 = (2 : Int).toNat then (some ad209) else ((some ad209) : Option Addr).map (·.add ((2 : Int).toNat * 1))) := ⟨_, rfl⟩
        obtain ⟨c16, hc16⟩ : ∃ c1, c1 = c13 - (2 : Int).toNat := ⟨_, rfl⟩
        have hy16 : y210.length = (4 : Int).toNat - (2 : Int).toNat := (by rw [Ny210.out, List.length_drop, List.length_take] <;> omega)
        rw [show ((y200).take (4 : Int).toNat).drop (2 : Int).toNat = y210 from Ny210.out.symm] at hr16
        replace hr16 : Kd.C (Kd.int .u8) _ A16 y210.length y210 := (by rw [hA16]; exact hr16)
        rw [← hy16, ← hA16, ← hc16] at hcut16
        have HR213 := Aside0.mk hr16
        have HC213 := Aside0.mk (show y210.length ≤ c16 from by rw [hy16, hc16]; exact Nat.sub_le_sub_right (Nat.le_trans (by omega) hroom16) _)
        clear hr16 hC16 hroom16 hi016 hsz16 hc16
        have KY16 := Aside0.mk hy16
        have KA16 := Aside0.mk hA16
        clear hy16 hA16
        replace q16 := eq_true q16
        go_upto_if 25 with (first | ((with_reducible refine gate_callee (f := 45) rfl ?_); refine goesL_ (some 29) rfl rfl Try.func45 (by kernel_rfl) rfl #[.slice A16 y210.length c16] rfl (by (try simp only [List.map_toArray, List.map_cons, List.map_nil]); first | done | rfl | (simp only [List.length_drop, List.length_take]; rfl)) ?_; (with_reducible refine (journal_number.calls k1 _ _ y210 t214 _ ?side1 ?side2 A11.out).mono ?_); (case side1 => exact pC (Kd.C_below HR213.out (by exact pB HB.out))); (case side2 => exact HC213.out); rintro e w' ⟨rfl, ⟨nd, rfl⟩⟩; refine ⟨_, rfl, ?_⟩))
        (try simp only [Act.put, List.setIfInBounds_toArray, List.set_cons_zero, List.set_cons_succ])
        go_cut [25] (fun v25 wc => ∃ (kq : Nat) (x25_11 : Bool), v25 = .bool x25_11 ∧ Aside0 (journal_Scan.j1 kq l0 x4_1 x5_1 y200 (wrap64 (rd y200 4)) (wrap64 (5 + t208)) x25_11 = some (r1, r2)) ∧ Aside0 (kq ≤ k1) ∧ Aside0 (Kd.S k43 43 wc w.heap.size (fun _ => True) u4 x4_1) ∧ Aside0 (Below w.heap.size w wc))
        case first =>
          have H := HC12.out
          clear HC12
          by_cases c17 : (wrap64 (t208 + t214)) = 65535
          · rw [if_pos c17] at H
            have c17b0 : ((wrap64 (t208 + t214)) == 65535) = true := beq_iff_eq.mpr c17
            have c17b1 : ((wrap64 (t208 + t214)) != 65535) = false := bne_eq_false_iff_eq.mpr c17
            clear c17
            (first | rw [c17b0] | (simp only [i64_w, i32_w]; rw [c17b0]) | skip)
            replace H := Option.bind_eq_some_iff.mp H
            obtain ⟨t215, A180, H⟩ := H
            replace H : (if t215 = true then (journal_Scan.j1 k1 l0 x4_1 x5_1 y200 (wrap64 (rd y200 4)) (wrap64 (5 + t208)) (decide (t208 > 60000))) else (journal_Scan.j1 k1 l0 x4_1 x5_1 y200 (wrap64 (rd y200 4)) (wrap64 (5 + t208)) (!t215))) = some (r1, r2) := H
            have A18 := Aside0.mk A180
            clear A180
            by_cases c19 : t215 = true
            · subst c19
              have H1 : (journal_Scan.j1 k1 l0 x4_1 x5_1 y200 (wrap64 (rd y200 4)) (wrap64 (5 + t208)) (decide (t208 > 60000))) = some (r1, r2) := by rw [if_pos rfl] at H; exact H
              clear H
              have H := H1
              clear H1
              have H' := Aside0.mk H
              clear H
              go_wp2_with (first | ((with_reducible refine gate_callee (f := 42) rfl ?_); refine goesL_ (some 33) rfl rfl Try.func42 (by kernel_rfl) rfl #[.int .i64 (wrap64 (rd y200 4))] rfl (by (try simp only [List.map_toArray, List.map_cons, List.map_nil]); first | done | rfl | (simp only [List.length_drop, List.length_take]; rfl)) ?_; (with_reducible refine (journal_validKind.calls (wrap64 (rd y200 4)) true _ A18.out).mono ?_); rintro e w' ⟨rfl, ⟨nd, rfl⟩⟩; refine ⟨_, rfl, ?_⟩))
              go_meet
              case rel => exact ⟨_, (decide (t208 > 60000)), (by first | rfl | (simp; done) | (simp [*]; done)), H', ⟨by have := HK1.out; first | omega | exact Nat.le_refl _⟩, ⟨by exact pS HO_4.out⟩, ⟨by exact pB HB.out⟩⟩
            · replace c19 := Bool.eq_false_iff.mpr c19
              subst c19
              have H1 : (journal_Scan.j1 k1 l0 x4_1 x5_1 y200 (wrap64 (rd y200 4)) (wrap64 (5 + t208)) (!false)) = some (r1, r2) := by rw [if_neg (show ¬ (false = true) by decide)] at H; exact H
              clear H
              have H := H1
              clear H1
              have H' := Aside0.mk H
              clear H
              go_wp2_with (first | ((with_reducible refine gate_callee (f := 42) rfl ?_); refine goesL_ (some 33) rfl rfl Try.func42 (by kernel_rfl) rfl #[.int .i64 (wrap64 (rd y200 4))] rfl (by (try simp only [List.map_toArray, List.map_cons, List.map_nil]); first | done | rfl | (simp only [List.length_drop, List.length_take]; rfl)) ?_; (with_reducible refine (journal_validKind.calls (wrap64 (rd y200 4)) false _ A18.out).mono ?_); rintro e w' ⟨rfl, ⟨nd, rfl⟩⟩; refine ⟨_, rfl, ?_⟩))
              go_meet
              case rel => exact ⟨_, (!false), (by first | rfl | (simp; done) | (simp [*]; done)), H', ⟨by have := HK1.out; first | omega | exact Nat.le_refl _⟩, ⟨by exact pS HO_4.out⟩, ⟨by exact pB HB.out⟩⟩
          · rw [if_neg c17] at H
            have c17b0 : ((wrap64 (t208 + t214)) == 65535) = false := beq_eq_false_iff_ne.mpr c17
            have c17b1 : ((wrap64 (t208 + t214)) != 65535) = true := bne_iff_ne.mpr c17
            (first | rw [c17b0] | (simp only [i64_w, i32_w]; rw [c17b0]) | skip)
            have H' := Aside0.mk H
            clear H
            go_wp2
            go_meet
            case rel => exact ⟨_, (((wrap64 (t208 + t214)) != 65535)), (by first | rfl | (simp; done) | (simp [*]; done)), H', ⟨by have := HK1.out; first | omega | exact Nat.le_refl _⟩, ⟨by exact pS HO_4.out⟩, ⟨by exact pB HB.out⟩⟩
        case rest =>
          clear HC12
          try clear c1
          try clear q1
          try clear c2
          try clear c2b0
          try clear c2b1
          try clear p2
          try clear q2
          try clear hx2
          try clear qi2
          try clear c3
          try clear c3b0
          try clear c3b1
          try clear p3
          try clear c4
          try clear c4b0
          try clear c4b1
          try clear c5
          try clear q5
          try clear c6
          try clear c6b0
          try clear c6b1
          try clear p6
          try clear c8
          try clear c8b0
          try clear c8b1
          try clear c9
          try clear c9b0
          try clear c9b1
          try clear c10
          try clear c10b0
          try clear c10b1
          try clear c13
          try clear q13
          try clear q15
          try clear c16
          try clear q16
          try clear c17
          try clear c17b0
          try clear c17b1
          try clear c19
          try clear hx209_0
          try clear p209
          try clear q013
          try clear q05
          try clear q13
          try clear q15
          try clear q16
          try clear q209
          try clear q5
          obtain ⟨kq, x25_11, rfl, HA, HJ11, HO_4, HB⟩ := hcut
          cases kq with
          | zero => exact absurd HA.out (by simp [journal_Scan.j1])
          | succ kj11 =>
            have H := HA.out
            clear HA
            simp only [journal_Scan.j1] at H
            by_cases c20 : x25_11 = true
            · subst c20
              have H1 : (some (x4_1, x5_1)) = some (r1, r2) := by rw [if_pos rfl] at H; exact H
              clear H
              have H := H1
              clear H1
              simp only [Option.some.injEq, Prod.mk.injEq] at H
              obtain ⟨rfl, rfl⟩ := H
              go_wp2
              (try rw [Exit.noGoto_ret])
              go_ret2
              exact ⟨_, by first | rfl | (simp [errW_none, errW_some] <;> rfl) | (simp [*, errW_none, errW_some] <;> rfl), by exact pS HO_4.out, by exact pB HB.out⟩
            · replace c20 := Bool.eq_false_iff.mpr c20
              subst c20
              have H1 : (if (y200.length : Int) < (wrap64 ((wrap64 (5 + t208)) + 4)) then (some (x4_1, x5_1)) else (if 0 ≤ (wrap64 (5 + t208)) then (if (wrap64 (5 + t208)) ≤ (y200.length : Int) then ((message_Checksum.f kj11 (y200.take ((wrap64 (5 + t208)) : Int).toNat)).bind fun t220 => (if (wrap64 (5 + t208)) ≤ (wrap64 ((wrap64 (5 + t208)) + 4)) then (if (wrap64 ((wrap64 (5 + t208)) + 4)) ≤ (y200.length : Int) then ((journal_number.f kj11 ((y200.take ((wrap64 ((wrap64 (5 + t208)) + 4)) : Int).toNat).drop ((wrap64 (5 + t208)) : Int).toNat)).bind fun t225 => (if t220 = t225 then (if 5 ≤ (wrap64 (5 + t208)) then ((slices_Clone_byte_byte.f ((y200.take ((wrap64 (5 + t208)) : Int).toNat).drop 5)).bind fun t230 => (if x4_1.length < 4398046511104 then (journal_Scan.l0 kj11 l0 (x4_1 ++ [(⟨(wrap64 (rd y200 4)), t230⟩ : S43)]) (wrap64 (x5_1 + (wrap64 ((wrap64 (5 + t208)) + 4))))) else (none))) else (none)) else (some (x4_1, x5_1)))) else (none)) else (none))) else (none)) else (none))) = some (r1, r2) := by rw [if_neg (show ¬ (false = true) by decide)] at H; exact H
              clear H
              have H := H1
              clear H1
              by_cases c21 : (y200.length : Int) < (wrap64 ((wrap64 (5 + t208)) + 4))
              · rw [if_pos c21] at H
                have c21b0 : decide ((y200.length : Int) < (wrap64 ((wrap64 (5 + t208)) + 4))) = true := decide_eq_true c21
                clear c21
                simp only [Option.some.injEq, Prod.mk.injEq] at H
                obtain ⟨rfl, rfl⟩ := H
                go_wp2
                (try rw [Exit.noGoto_ret])
                go_ret2
                exact ⟨_, by first | rfl | (simp [errW_none, errW_some] <;> rfl) | (simp [*, errW_none, errW_some] <;> rfl), by exact pS HO_4.out, by exact pB HB.out⟩
              · rw [if_neg c21] at H
                have c21b0 : decide ((y200.length : Int) < (wrap64 ((wrap64 (5 + t208)) + 4))) = false := decide_eq_false c21
                clear c21
                obtain ⟨ji22, hji22⟩ : ∃ j_ : Int, (wrap64 (5 + t208)) = j_ := ⟨_, rfl⟩
                replace H : (if 0 ≤ (ji22) then (if (ji22) ≤ (y200.length : Int) then ((message_Checksum.f kj11 (y200.take ((ji22) : Int).toNat)).bind fun t220 => (if (ji22) ≤ (wrap64 ((ji22) + 4)) then (if (wrap64 ((ji22) + 4)) ≤ (y200.length : Int) then ((journal_number.f kj11 ((y200.take ((wrap64 ((ji22) + 4)) : Int).toNat).drop ((ji22) : Int).toNat)).bind fun t225 => (if t220 = t225 then (if 5 ≤ (ji22) then ((slices_Clone_byte_byte.f ((y200.take ((ji22) : Int).toNat).drop 5)).bind fun t230 => (if x4_1.length < 4398046511104 then (journal_Scan.l0 kj11 l0 (x4_1 ++ [(⟨(wrap64 (rd y200 4)), t230⟩ : S43)]) (wrap64 (x5_1 + (wrap64 ((ji22) + 4))))) else (none))) else (none)) else (some (x4_1, x5_1)))) else (none)) else (none))) else (none)) else (none)) = some (r1, r2) := by first | (rw [hji22] at H; exact H) | (simp only [hji22] at H ⊢; exact H)
                (try rw [hji22] at c21b0)
                have hji22w : (IntKind.i64.wrap (5 + t208)) = ji22 := (i64_w _).trans hji22
                have c23 : 0 ≤ (ji22) := by
                  refine Classical.byContradiction fun c23 => ?_
                  rw [if_neg c23] at H
                  exact absurd H (by simp)
                rw [if_pos c23] at H
                have c23b0 := eq_true c23
                have c23b1 : decide (0 ≤ (ji22)) = true := decide_eq_true c23
                clear c23
                have c24 : (ji22) ≤ (y200.length : Int) := by
                  refine Classical.byContradiction fun c24 => ?_
                  rw [if_neg c24] at H
                  exact absurd H (by simp)
                rw [if_pos c24] at H
                have c24b0 := eq_true c24
                have c24b1 : decide ((ji22) ≤ (y200.length : Int)) = true := decide_eq_true c24
                clear c24
                obtain ⟨y216, hy216⟩ : ∃ y_ : List Int, y_ = (y200.take ((ji22) : Int).toNat) := ⟨_, rfl⟩
                replace H : ((message_Checksum.f kj11 y216).bind fun t220 => (if (ji22) ≤ (wrap64 ((ji22) + 4)) then (if (wrap64 ((ji22) + 4)) ≤ (y200.length : Int) then ((journal_number.f kj11 ((y200.take ((wrap64 ((ji22) + 4)) : Int).toNat).drop ((ji22) : Int).toNat)).bind fun t225 => (if t220 = t225 then (if 5 ≤ (ji22) then ((slices_Clone_byte_byte.f ((y200.take ((ji22) : Int).toNat).drop 5)).bind fun t230 => (if x4_1.length < 4398046511104 then (journal_Scan.l0 kj11 l0 (x4_1 ++ [(⟨(wrap64 (rd y200 4)), t230⟩ : S43)]) (wrap64 (x5_1 + (wrap64 ((ji22) + 4))))) else (none))) else (none)) else (some (x4_1, x5_1)))) else (none)) else (none))) = some (r1, r2) := by first | (rw [hy216]; with_reducible exact H) | (have H2_ := (Option.bind_some _ _).symm.trans H; rw [hy216]; with_reducible exact H2_) | (have H2_ := (Option.bind_some _ _).symm.trans H; with_reducible exact H2_) | with_reducible exact H | (rw [hy216]; exact H) | exact H
                have Ny216 := Aside0.mk hy216
                clear hy216
                replace H := Option.bind_eq_some_iff.mp H
                obtain ⟨t220, A250, H⟩ := H
                replace H : (if (ji22) ≤ (wrap64 ((ji22) + 4)) then (if (wrap64 ((ji22) + 4)) ≤ (y200.length : Int) then ((journal_number.f kj11 ((y200.take ((wrap64 ((ji22) + 4)) : Int).toNat).drop ((ji22) : Int).toNat)).bind fun t225 => (if t220 = t225 then (if 5 ≤ (ji22) then ((slices_Clone_byte_byte.f ((y200.take ((ji22) : Int).toNat).drop 5)).bind fun t230 => (if x4_1.length < 4398046511104 then (journal_Scan.l0 kj11 l0 (x4_1 ++ [(⟨(wrap64 (rd y200 4)), t230⟩ : S43)]) (wrap64 (x5_1 + (wrap64 ((ji22) + 4))))) else (none))) else (none)) else (some (x4_1, x5_1)))) else (none)) else (none)) = some (r1, r2) := H
                have A25 := Aside0.mk A250
                clear A250
                have c26b0 := eq_true (of_decide_eq_true (by first | (with_reducible assumption) | assumption) : 0 ≤ (ji22))
                have c27 : (ji22) ≤ (wrap64 ((ji22) + 4)) := by
                  refine Classical.byContradiction fun c27 => ?_
                  rw [if_neg c27] at H
                  exact absurd H (by simp)
                rw [if_pos c27] at H
                have c27b0 := eq_true c27
                have c27b1 : decide ((ji22) ≤ (wrap64 ((ji22) + 4))) = true := decide_eq_true c27
                have c28 : (wrap64 ((ji22) + 4)) ≤ (y200.length : Int) := by
                  refine Classical.byContradiction fun c28 => ?_
                  rw [if_neg c28] at H
                  exact absurd H (by simp)
                rw [if_pos c28] at H
                have c28b0 := eq_true c28
                have c28b1 : decide ((wrap64 ((ji22) + 4)) ≤ (y200.length : Int)) = true := decide_eq_true c28
                obtain ⟨y221, hy221⟩ : ∃ y_ : List Int, y_ = ((y200.take ((wrap64 ((ji22) + 4)) : Int).toNat).drop ((ji22) : Int).toNat) := ⟨_, rfl⟩
                replace H : ((journal_number.f kj11 y221).bind fun t225 => (if t220 = t225 then (if 5 ≤ (ji22) then ((slices_Clone_byte_byte.f ((y200.take ((ji22) : Int).toNat).drop 5)).bind fun t230 => (if x4_1.length < 4398046511104 then (journal_Scan.l0 kj11 l0 (x4_1 ++ [(⟨(wrap64 (rd y200 4)), t230⟩ : S43)]) (wrap64 (x5_1 + (wrap64 ((ji22) + 4))))) else (none))) else (none)) else (some (x4_1, x5_1)))) = some (r1, r2) := by first | (rw [hy221]; with_reducible exact H) | (have H2_ := (Option.bind_some _ _).symm.trans H; rw [hy221]; with_reducible exact H2_) | (have H2_ := (Option.bind_some _ _).symm.trans H; with_reducible exact H2_) | with_reducible exact H | (rw [hy221]; exact H) | exact H
                have Ny221 := Aside0.mk hy221
                clear hy221
                replace H := Option.bind_eq_some_iff.mp H
                obtain ⟨t225, A290, H⟩ := H
                replace H : (if t220 = t225 then (if 5 ≤ (ji22) then ((slices_Clone_byte_byte.f ((y200.take ((ji22) : Int).toNat).drop 5)).bind fun t230 => (if x4_1.length < 4398046511104 then (journal_Scan.l0 kj11 l0 (x4_1 ++ [(⟨(wrap64 (rd y200 4)), t230⟩ : S43)]) (wrap64 (x5_1 + (wrap64 ((ji22) + 4))))) else (none))) else (none)) else (some (x4_1, x5_1))) = some (r1, r2) := H
                have A29 := Aside0.mk A290
                clear A290
                by_cases c30 : t220 = t225
                · rw [if_pos c30] at H
                  have c30b0 : (t220 == t225) = true := beq_iff_eq.mpr c30
                  have c30b1 : (t220 != t225) = false := bne_eq_false_iff_eq.mpr c30
                  clear c30
                  have c31 : 5 ≤ (ji22) := by
                    refine Classical.byContradiction fun c31 => ?_
                    rw [if_neg c31] at H
                    exact absurd H (by simp)
                  rw [if_pos c31] at H
                  have c31b0 := eq_true c31
                  have c31b1 : decide (5 ≤ (ji22)) = true := decide_eq_true c31
                  clear c31
                  have c32b0 := eq_true (of_decide_eq_true (by first | (with_reducible assumption) | assumption) : (ji22) ≤ (y200.length : Int))
                  obtain ⟨y226, hy226⟩ : ∃ y_ : List Int, y_ = ((y200.take ((ji22) : Int).toNat).drop 5) := ⟨_, rfl⟩
                  replace H : ((slices_Clone_byte_byte.f y226).bind fun t230 => (if x4_1.length < 4398046511104 then (journal_Scan.l0 kj11 l0 (x4_1 ++ [(⟨(wrap64 (rd y200 4)), t230⟩ : S43)]) (wrap64 (x5_1 + (wrap64 ((ji22) + 4))))) else (none))) = some (r1, r2) := by first | (rw [hy226]; with_reducible exact H) | (have H2_ := (Option.bind_some _ _).symm.trans H; rw [hy226]; with_reducible exact H2_) | (have H2_ := (Option.bind_some _ _).symm.trans H; with_reducible exact H2_) | with_reducible exact H | (rw [hy226]; exact H) | exact H
                  have Ny226 := Aside0.mk hy226
                  clear hy226
                  replace H := Option.bind_eq_some_iff.mp H
                  obtain ⟨t230, A330, H⟩ := H
                  replace H : (if x4_1.length < 4398046511104 then (journal_Scan.l0 kj11 l0 (x4_1 ++ [(⟨(wrap64 (rd y200 4)), t230⟩ : S43)]) (wrap64 (x5_1 + (wrap64 ((ji22) + 4))))) else (none)) = some (r1, r2) := H
                  have A33 := Aside0.mk A330
                  clear A330
                  have c34 : x4_1.length < 4398046511104 := by
                    refine Classical.byContradiction fun c34 => ?_
                    rw [if_neg c34] at H
                    exact absurd H (by simp)
                  rw [if_pos c34] at H
                  have LMc34 := Aside0.mk c34
                  clear c34
                  obtain ⟨y233, hy233⟩ : ∃ y_ : List (S43), y_ = (x4_1 ++ [(⟨(wrap64 (rd y200 4)), t230⟩ : S43)]) := ⟨_, rfl⟩
                  replace H : (journal_Scan.l0 kj11 l0 y233 (wrap64 (x5_1 + (wrap64 ((ji22) + 4))))) = some (r1, r2) := by first | (rw [hy233]; with_reducible exact H) | (have H2_ := (Option.bind_some _ _).symm.trans H; rw [hy233]; with_reducible exact H2_) | (have H2_ := (Option.bind_some _ _).symm.trans H; with_reducible exact H2_) | with_reducible exact H | (rw [hy233]; exact H) | exact H
                  have Ny233 := Aside0.mk hy233
                  clear hy233
                  have H' := Aside0.mk H
                  clear H
                  try go_wp2
                  have n0_ := Aside0.mk (Kd.S_drew HO_4.out)
                  have n1_ := Aside0.mk (below_drew1 HB.out)
                  clear HO_4
                  clear HB
                  have HO_4 := n0_
                  have HB := n1_
                  clear n0_ n1_
                  have q36 : ((ji22) : Int) ≤ ((y200.length : Int) : Int) := of_decide_eq_true (by first | (with_reducible assumption) | assumption)
                  obtain ⟨i036, hi036, _, hsz36, _⟩ := info_parts info5
                  have hroom36 : y200.length ≤ c13 := HC203.out
                  have hC36 : Kd.C (Kd.int .u8) _ (some ad209) y200.length y200 := HR203.out
                  have hcut36 := cut_to (P := Try.prog) 22 5 .i64 Try.underlying22 hi036 (some ad209) y200.length c13 (ji22) (of_decide_eq_true (by first | (with_reducible assumption) | assumption)) q36 hroom36
                  have hr36 := Kd.C_take (m := ((ji22) : Int).toNat) hC36 (by omega)
                  have hy36 : y216.length = ((ji22) : Int).toNat := (by rw [Ny216.out, List.length_take]; omega)
                  rw [← Ny216.out] at hr36
                  rw [← hy36] at hcut36
                  have HR219 := Aside0.mk hr36
                  have HC219 := Aside0.mk (show y216.length ≤ c13 from by omega)
                  clear hr36 hC36 hroom36 hi036 hsz36
                  have KY36 := Aside0.mk hy36
                  clear hy36
                  replace q36 := eq_true q36
                  have q37 : ((wrap64 ((ji22) + 4)) : Int) ≤ ((y200.length : Int) : Int) := of_decide_eq_true (by first | (with_reducible assumption) | assumption)
                  obtain ⟨i037, hi037, _, hsz37, _⟩ := info_parts info5
                  have hroom37 : y200.length ≤ c13 := HC203.out
                  have hC37 : Kd.C (Kd.int .u8) _ (some ad209) y200.length y200 := HR203.out
                  have ql37 : ((ji22) : Int) ≤ ((wrap64 ((ji22) + 4)) : Int) := of_decide_eq_true (by first | (with_reducible assumption) | assumption)
                  have q037 : (0 : Int) ≤ ((ji22) : Int) := of_decide_eq_true (by first | (with_reducible assumption) | assumption)
                  have hcut37 := cut_mid (P := Try.prog) 22 5 .i64 .i64 Try.underlying22 hi037 1 hsz37 (some ad209) y200.length c13 (ji22) (wrap64 ((ji22) + 4)) q037 ql37 q37 hroom37
                  have hr37 := Kd.C_mid (lo := ((ji22) : Int).toNat) (hi := ((wrap64 ((ji22) + 4)) : Int).toNat) (c := c13) hC37 (by omega) (by omega) hroom37
                  obtain ⟨A37, hA37⟩ : ∃ A1, A1 = (if c13 = ((ji22) : Int).toNat then (some ad209) else ((some ad209) : Option Addr).map (·.add (((ji22) : Int).toNat * 1))) := ⟨_, rfl⟩
                  obtain ⟨c37, hc37⟩ : ∃ c1, c1 = c13 - ((ji22) : Int).toNat := ⟨_, rfl⟩
                  have hy37 : y221.length = ((wrap64 ((ji22) + 4)) : Int).toNat - ((ji22) : Int).toNat := (by rw [Ny221.out, List.length_drop, List.length_take] <;> omega)
                  rw [show ((y200).take ((wrap64 ((ji22) + 4)) : Int).toNat).drop ((ji22) : Int).toNat = y221 from Ny221.out.symm] at hr37
                  replace hr37 : Kd.C (Kd.int .u8) _ A37 y221.length y221 := (by rw [hA37]; exact hr37)
                  rw [← hy37, ← hA37, ← hc37] at hcut37
                  have HR224 := Aside0.mk hr37
                  have HC224 := Aside0.mk (show y221.length ≤ c37 from by rw [hy37, hc37]; exact Nat.sub_le_sub_right (Nat.le_trans (by omega) hroom37) _)
                  clear hr37 hC37 hroom37 hi037 hsz37 hc37
                  have KY37 := Aside0.mk hy37
                  have KA37 := Aside0.mk hA37
                  clear hy37 hA37
                  replace q37 := eq_true q37
                  refine start_ (n := 12) (S := fun w' => True) (ds := []) #[false, false, false, false, false, false, false, false, false, false, false, false] (by kernel_rfl) rfl rfl trivial (fun hHeld => ?_); refine with_tabW journal_Scan.tab11 journal_Scan.bits11 (fun HT_ HW_ => ?_)
                  generalize wc.drew = w35 at HO_4 HB HR219 HR224 hHeld ⊢
                  refine pure_ (i := 0) (N := some 44) (v := ?_) (a' := ?_) #[true, false, false, false, false, false, false, false, false, false, false, false] rfl rfl (any_of HT_.out (by kernel_rfl)) (fun _ _ _ h => h) (Or.inl ⟨by rfl, ?_⟩) ?_ ?_
                  rotate_left
                  · intro w'
                    go_simp
                    with_reducible rfl
                  rotate_left
                  · simp only [Act.put, List.setIfInBounds_toArray, List.set_cons_zero, List.set_cons_succ, i64_w, i32_w]
                    rfl
                  refine pure_ (i := 1) (N := some 45) (v := ?_) (a' := ?_) #[true, true, false, false, false, false, false, false, false, false, false, false] rfl rfl (any_of HT_.out (by kernel_rfl)) (fun _ _ _ h => h) (Or.inl ⟨by rfl, ?_⟩) ?_ ?_
                  rotate_left
                  · intro w'
                    go_simp
                    with_reducible rfl
                  rotate_left
                  · simp only [Act.put, List.setIfInBounds_toArray, List.set_cons_zero, List.set_cons_succ, i64_w, i32_w]
                    rfl
                  refine pure_ (i := 2) (N := some 46) (v := ?_) (a' := ?_) #[true, true, true, false, false, false, false, false, false, false, false, false] rfl rfl (any_of HT_.out (by kernel_rfl)) (fun _ _ _ h => h) (Or.inl ⟨by rfl, ?_⟩) ?_ ?_
                  rotate_left
                  · intro w'
                    go_simp
                    with_reducible rfl
                  rotate_left
                  · simp only [Act.put, List.setIfInBounds_toArray, List.set_cons_zero, List.set_cons_succ, i64_w, i32_w]
                    rfl
                  refine pure_ (i := 4) (N := some 48) (v := ?_) (a' := ?_) #[true, true, true, false, true, false, false, false, false, false, false, false] rfl rfl (any_of HT_.out (by kernel_rfl)) (fun _ _ _ h => h) (Or.inl ⟨by rfl, ?_⟩) ?_ ?_
                  rotate_left
                  · intro w'
                    go_simp
                    with_reducible rfl
                  rotate_left
                  · simp only [Act.put, List.setIfInBounds_toArray, List.set_cons_zero, List.set_cons_succ, i64_w, i32_w]
                    rfl
                  refine pure_ (i := 5) (N := some 49) (v := ?_) (a' := ?_) #[true, true, true, false, true, true, false, false, false, false, false, false] rfl rfl (any_of HT_.out (by kernel_rfl)) (fun _ _ _ h => h) (Or.inl ⟨by rfl, ?_⟩) ?_ ?_
                  rotate_left
                  · intro w'
                    go_simp
                    with_reducible rfl
                  rotate_left
                  · simp only [Act.put, List.setIfInBounds_toArray, List.set_cons_zero, List.set_cons_succ, i64_w, i32_w]
                    rfl
                  refine pure_ (i := 6) (N := some 50) (v := ?_) (a' := ?_) #[true, true, true, false, true, true, true, false, false, false, false, false] rfl rfl (any_of HT_.out (by kernel_rfl)) (fun _ _ _ h => h) (Or.inl ⟨by rfl, ?_⟩) ?_ ?_
                  rotate_left
                  · intro w'
                    go_simp
                    with_reducible rfl
                  rotate_left
                  · simp only [Act.put, List.setIfInBounds_toArray, List.set_cons_zero, List.set_cons_succ, i64_w, i32_w]
                    rfl
                  refine pure_ (i := 7) (N := some 51) (v := ?_) (a' := ?_) #[true, true, true, false, true, true, true, true, false, false, false, false] rfl rfl (any_of HT_.out (by kernel_rfl)) (fun _ _ _ h => h) (Or.inl ⟨by rfl, ?_⟩) ?_ ?_
                  rotate_left
                  · intro w'
                    go_simp
                    with_reducible rfl
                  rotate_left
                  · simp only [Act.put, List.setIfInBounds_toArray, List.set_cons_zero, List.set_cons_succ, i64_w, i32_w]
                    rfl
                  refine pure_ (i := 8) (N := some 52) (v := ?_) (a' := ?_) #[true, true, true, false, true, true, true, true, true, false, false, false] rfl rfl (any_of HT_.out (by kernel_rfl)) (fun _ _ _ h => h) (Or.inl ⟨by rfl, ?_⟩) ?_ ?_
                  rotate_left
                  · intro w'
                    go_simp
                    with_reducible rfl
                  rotate_left
                  · simp only [Act.put, List.setIfInBounds_toArray, List.set_cons_zero, List.set_cons_succ, i64_w, i32_w]
                    rfl
                  refine one_ (i := 3) (N := some 47) #[true, true, true, true, true, true, true, true, true, false, false, false] rfl rfl (one_of HT_.out (by kernel_rfl)) (by decide) (fun K hK => ?_)
                  refine goes_ Try.func43 (by kernel_rfl) rfl #[.slice (some ad209) y216.length c13] (by rfl) rfl rfl (by (try simp only [List.map_toArray, List.map_cons, List.map_nil]); first | done | rfl | (simp only [List.length_drop, List.length_take]; rfl)) ?_
                  with_reducible refine (message_Checksum.calls kj11 _ _ y216 t220 _ ?side1 ?side2 A25.out).mono ?_
                  (case side1 => exact pC (Kd.C_below HR219.out HB.out))
                  (case side2 => exact HC219.out)
                  rintro e w' ⟨rfl, ⟨nd, rfl⟩⟩
                  refine ⟨_, rfl, ?_⟩
                  refine hK.out _ _ trivial (fun hHeld => ?_)
                  clear hK K
                  refine norm_ (a' := ?_) ?_ ?_
                  rotate_left
                  · show Act.put _ (some 47) _ = _
                    simp only [Act.put, List.setIfInBounds_toArray, List.set_cons_zero, List.set_cons_succ, i64_w, i32_w]
                    rfl
                  refine one_ (i := 9) (N := some 53) #[true, true, true, true, true, true, true, true, true, true, false, false] rfl rfl (one_of HT_.out (by kernel_rfl)) (by decide) (fun K hK => ?_)
                  refine goes_ Try.func45 (by kernel_rfl) rfl #[.slice A37 y221.length c37] (by rfl) rfl rfl (by (try simp only [List.map_toArray, List.map_cons, List.map_nil]); first | done | rfl | (simp only [List.length_drop, List.length_take]; rfl)) ?_
                  with_reducible refine (journal_number.calls kj11 _ _ y221 t225 _ ?side1 ?side2 A29.out).mono ?_
                  (case side1 => exact pC (Kd.C_below HR224.out (by exact pB HB.out)))
                  (case side2 => exact HC224.out)
                  rintro e w' ⟨rfl, ⟨nd, rfl⟩⟩
                  refine ⟨_, rfl, ?_⟩
                  refine hK.out _ _ trivial (fun hHeld => ?_)
                  clear hK K
                  refine norm_ (a' := ?_) ?_ ?_
                  rotate_left
                  · show Act.put _ (some 53) _ = _
                    simp only [Act.put, List.setIfInBounds_toArray, List.set_cons_zero, List.set_cons_succ, i64_w, i32_w]
                    rfl
                  refine pure_ (i := 10) (N := some 54) (v := ?_) (a' := ?_) #[true, true, true, true, true, true, true, true, true, true, true, false] rfl rfl (any_of HT_.out (by kernel_rfl)) (fun _ _ _ h => h) (Or.inl ⟨by rfl, ?_⟩) ?_ ?_
                  rotate_left
                  · intro w'
                    go_simp
                    with_reducible rfl
                  rotate_left
                  · simp only [Act.put, List.setIfInBounds_toArray, List.set_cons_zero, List.set_cons_succ, i64_w, i32_w]
                    rfl
                  refine pure_ (i := 11) (N := some 43) (v := ?_) (a' := ?_) #[true, true, true, true, true, true, true, true, true, true, true, true] rfl rfl (any_of HT_.out (by kernel_rfl)) (fun _ _ _ h => h) (Or.inl ⟨by rfl, ?_⟩) ?_ ?_
                  rotate_left
                  · intro w'
                    go_simp
                    with_reducible rfl
                  rotate_left
                  · simp only [Act.put, List.setIfInBounds_toArray, List.set_cons_zero, List.set_cons_succ, i64_w, i32_w]
                    rfl
                  refine done_ (done_of HT_.out (by kernel_rfl)) ?_
                  have q38 : ((ji22) : Int) ≤ ((y200.length : Int) : Int) := of_decide_eq_true (by first | (with_reducible assumption) | assumption)
                  obtain ⟨i038, hi038, _, hsz38, _⟩ := info_parts info5
                  have hroom38 : y200.length ≤ c13 := HC203.out
                  have hC38 : Kd.C (Kd.int .u8) _ (some ad209) y200.length y200 := HR203.out
                  have ql38 : (5 : Int) ≤ ((ji22) : Int) := of_decide_eq_true (by first | (with_reducible assumption) | assumption)
                  have hcut38 := cut_mid (P := Try.prog) 22 5 .i64 .i64 Try.underlying22 hi038 1 hsz38 (some ad209) y200.length c13 5 (ji22) (by omega) ql38 q38 hroom38
                  have hr38 := Kd.C_mid (lo := (5 : Int).toNat) (hi := ((ji22) : Int).toNat) (c := c13) hC38 (by omega) (by omega) hroom38
                  obtain ⟨A38, hA38⟩ : ∃ A1, A1 = (if c13 = (5 : Int).toNat then (some ad209) else ((some ad209) : Option Addr).map (·.add ((5 : Int).toNat * 1))) := ⟨_, rfl⟩
                  obtain ⟨c38, hc38⟩ : ∃ c1, c1 = c13 - (5 : Int).toNat := ⟨_, rfl⟩
                  have hy38 : y226.length = ((ji22) : Int).toNat - (5 : Int).toNat := (by rw [Ny226.out, List.length_drop, List.length_take] <;> omega)
                  rw [show ((y200).take ((ji22) : Int).toNat).drop (5 : Int).toNat = y226 from Ny226.out.symm] at hr38
                  replace hr38 : Kd.C (Kd.int .u8) _ A38 y226.length y226 := (by rw [hA38]; exact hr38)
                  rw [← hy38, ← hA38, ← hc38] at hcut38
                  have HR229 := Aside0.mk hr38
                  have HC229 := Aside0.mk (show y226.length ≤ c38 from by rw [hy38, hc38]; exact Nat.sub_le_sub_right (Nat.le_trans (by omega) hroom38) _)
                  clear hr38 hC38 hroom38 hi038 hsz38 hc38
                  have KY38 := Aside0.mk hy38
                  have KA38 := Aside0.mk hA38
                  clear hy38 hA38
                  replace q38 := eq_true q38
                  try go_wp2_with (first | ((with_reducible refine gate_callee (f := 46) rfl ?_); refine goesL_ (some 60) rfl rfl Try.func46 (by kernel_rfl) rfl #[.slice A38 y226.length c38] rfl (by (try simp only [List.map_toArray, List.map_cons, List.map_nil]); first | done | rfl | (simp only [List.length_drop, List.length_take]; rfl)) ?_; (with_reducible refine (slices_Clone_byte_byte.calls _ _ y226 t230 _ ?side1 ?side2 A33.out).mono ?_); (case side1 => exact pC (Kd.C_below HR229.out (by exact pB HB.out))); (case side2 => exact HC229.out); rintro e w39 ⟨v231, rfl, ho0, hb⟩; refine ⟨_, rfl, ?_⟩; have n0_ := Aside0.mk (Kd.S_elder' (by exact pS HO_4.out) (Kd.R_base ho0) hb); have n1_ := Aside0.mk (Kd.R_lower ho0 (below_size (by exact pB HB.out))); have n2_ := Aside0.mk (below_step (by exact pB HB.out) hb); clear HO_4; clear HB; have HO_4 := n0_; have HO232 := n1_; have HB := n2_; clear n0_ n1_ n2_; (try clear hb); (try clear hb2); (try clear hk); (try clear hi); (try clear ho0); obtain ⟨Ao40, co40, eo40⟩ := Kd.R_slice HO232.out; subst eo40) | ((with_reducible refine gate_builtin (b := .append) (xs := #[.tmp 55, .tmp 62]) rfl ?_); at_builtin; refine Kd.S_append k43 (w0 := w) w.heap.size rfl (.tmp 55) (.tmp 62) 46 43 (.agg #[(.int .i64 0), (.slice none 0 0)]) 32 rfl Try.underlying46 info43 rfl (by decide) (by omega) u4 x4_1 (⟨(wrap64 (rd y200 4)), t230⟩ : S43) [.int .i64 (wrap64 (rd y200 4)), .slice Ao40 t230.length co40] (fun _ => True) (fun k_ => some k_ = (.slice Ao40 t230.length co40 : Value).ownBlock) rfl rfl ?aP (fun k_ hk_ => ((Kd.R_mono (ok' := fun k_ => ((fun _ => True)) k_ ∧ some k_ ≠ (u4 : Value).ownBlock) (Kd.R_apart' (HO232.out) (Kd.S_typed HO_4.out) (by decide)) (fun k_ hk => ⟨trivial, hk.2⟩))).1 k_ hk_.symm) ?aF ?aO ?aB ?aS ?aL ?_; (case aP => exact k43_mkM _ _ _ (⟨(wrap64 (rd y200 4)), t230⟩ : S43) (Kd.R_mono (Kd.R_tight rfl (Kd.R_mono (ok' := fun k_ => ((fun _ => True)) k_ ∧ some k_ ≠ (u4 : Value).ownBlock) (Kd.R_apart' (HO232.out) (Kd.S_typed HO_4.out) (by decide)) (fun k_ hk => ⟨trivial, hk.2⟩))) (fun _ h_ => h_))); (case aB => exact (by exact pB HB.out)); (case aF => exact (fun _ _ => trivial)); (case aO => exact (by (with_reducible repeat (first | apply Kd.S_alloc | apply Kd.S_drewN | apply Kd.S_drew)); exact Kd.S_mono HO_4.out (fun k_ hk => ⟨trivial, fun e_ => hk.2 e_⟩))); (case aS => exact (below_size (by exact pB HB.out))); (case aL => have := LMc34.out; omega); intro v234 w41 ho hb hg hat; rw [← Ny233.out] at ho; have n0_ := Aside0.mk (hb); have n1_ := Aside0.mk (ho); clear HB; clear HO_4; clear HO232; have HB := n0_; have HO235 := n1_; clear n0_ n1_; clear ho hb hg hat))
                  go_roundg kj11
                  case measure => have := HK1.out; have := HJ11.out; omega
                  case rel => exact ⟨(y233), (wrap64 (x5_1 + (wrap64 ((ji22) + 4)))), (by first | rfl | (simp; done) | (simp only [← hji22] <;> (first | rfl | simp)) | (simp [*]; done)), H', ⟨by have := HK1.out; have := HJ11.out; omega⟩, ⟨by exact pS HO235.out⟩, ⟨by exact pB HB.out⟩⟩
                · rw [if_neg c30] at H
                  have c30b0 : (t220 == t225) = false := beq_eq_false_iff_ne.mpr c30
                  have c30b1 : (t220 != t225) = true := bne_iff_ne.mpr c30
                  simp only [Option.some.injEq, Prod.mk.injEq] at H
                  obtain ⟨rfl, rfl⟩ := H
                  try go_wp2
                  have n0_ := Aside0.mk (Kd.S_drew HO_4.out)
                  have n1_ := Aside0.mk (below_drew1 HB.out)
                  clear HO_4
                  clear HB
                  have HO_4 := n0_
                  have HB := n1_
                  clear n0_ n1_
                  have q43 : ((ji22) : Int) ≤ ((y200.length : Int) : Int) := of_decide_eq_true (by first | (with_reducible assumption) | assumption)
                  obtain ⟨i043, hi043, _, hsz43, _⟩ := info_parts info5
                  have hroom43 : y200.length ≤ c13 := HC203.out
                  have hC43 : Kd.C (Kd.int .u8) _ (some ad209) y200.length y200 := HR203.out
                  have hcut43 := cut_to (P := Try.prog) 22 5 .i64 Try.underlying22 hi043 (some ad209) y200.length c13 (ji22) (of_decide_eq_true (by first | (with_reducible assumption) | assumption)) q43 hroom43
                  have hr43 := Kd.C_take (m := ((ji22) : Int).toNat) hC43 (by omega)
                  have hy43 : y216.length = ((ji22) : Int).toNat := (by rw [Ny216.out, List.length_take]; omega)
                  rw [← Ny216.out] at hr43
                  rw [← hy43] at hcut43
                  have HR219 := Aside0.mk hr43
                  have HC219 := Aside0.mk (show y216.length ≤ c13 from by omega)
                  clear hr43 hC43 hroom43 hi043 hsz43
                  have KY43 := Aside0.mk hy43
                  clear hy43
                  replace q43 := eq_true q43
                  have q44 : ((wrap64 ((ji22) + 4)) : Int) ≤ ((y200.length : Int) : Int) := of_decide_eq_true (by first | (with_reducible assumption) | assumption)
                  obtain ⟨i044, hi044, _, hsz44, _⟩ := info_parts info5
                  have hroom44 : y200.length ≤ c13 := HC203.out
                  have hC44 : Kd.C (Kd.int .u8) _ (some ad209) y200.length y200 := HR203.out
                  have ql44 : ((ji22) : Int) ≤ ((wrap64 ((ji22) + 4)) : Int) := of_decide_eq_true (by first | (with_reducible assumption) | assumption)
                  have q044 : (0 : Int) ≤ ((ji22) : Int) := of_decide_eq_true (by first | (with_reducible assumption) | assumption)
                  have hcut44 := cut_mid (P := Try.prog) 22 5 .i64 .i64 Try.underlying22 hi044 1 hsz44 (some ad209) y200.length c13 (ji22) (wrap64 ((ji22) + 4)) q044 ql44 q44 hroom44
                  have hr44 := Kd.C_mid (lo := ((ji22) : Int).toNat) (hi := ((wrap64 ((ji22) + 4)) : Int).toNat) (c := c13) hC44 (by omega) (by omega) hroom44
                  obtain ⟨A44, hA44⟩ : ∃ A1, A1 = (if c13 = ((ji22) : Int).toNat then (some ad209) else ((some ad209) : Option Addr).map (·.add (((ji22) : Int).toNat * 1))) := ⟨_, rfl⟩
                  obtain ⟨c44, hc44⟩ : ∃ c1, c1 = c13 - ((ji22) : Int).toNat := ⟨_, rfl⟩
                  have hy44 : y221.length = ((wrap64 ((ji22) + 4)) : Int).toNat - ((ji22) : Int).toNat := (by rw [Ny221.out, List.length_drop, List.length_take] <;> omega)
                  rw [show ((y200).take ((wrap64 ((ji22) + 4)) : Int).toNat).drop ((ji22) : Int).toNat = y221 from Ny221.out.symm] at hr44
                  replace hr44 : Kd.C (Kd.int .u8) _ A44 y221.length y221 := (by rw [hA44]; exact hr44)
                  rw [← hy44, ← hA44, ← hc44] at hcut44
                  have HR224 := Aside0.mk hr44
                  have HC224 := Aside0.mk (show y221.length ≤ c44 from by rw [hy44, hc44]; exact Nat.sub_le_sub_right (Nat.le_trans (by omega) hroom44) _)
                  clear hr44 hC44 hroom44 hi044 hsz44 hc44
                  have KY44 := Aside0.mk hy44
                  have KA44 := Aside0.mk hA44
                  clear hy44 hA44
                  replace q44 := eq_true q44
                  refine start_ (n := 12) (S := fun w' => True) (ds := []) #[false, false, false, false, false, false, false, false, false, false, false, false] (by kernel_rfl) rfl rfl trivial (fun hHeld => ?_); refine with_tabW journal_Scan.tab11 journal_Scan.bits11 (fun HT_ HW_ => ?_)
                  generalize wc.drew = w42 at HO_4 HB HR219 HR224 hHeld ⊢
                  refine pure_ (i := 0) (N := some 44) (v := ?_) (a' := ?_) #[true, false, false, false, false, false, false, false, false, false, false, false] rfl rfl (any_of HT_.out (by kernel_rfl)) (fun _ _ _ h => h) (Or.inl ⟨by rfl, ?_⟩) ?_ ?_
                  rotate_left
                  · intro w'
                    go_simp
                    with_reducible rfl
                  rotate_left
                  · simp only [Act.put, List.setIfInBounds_toArray, List.set_cons_zero, List.set_cons_succ, i64_w, i32_w]
                    rfl
                  refine pure_ (i := 1) (N := some 45) (v := ?_) (a' := ?_) #[true, true, false, false, false, false, false, false, false, false, false, false] rfl rfl (any_of HT_.out (by kernel_rfl)) (fun _ _ _ h => h) (Or.inl ⟨by rfl, ?_⟩) ?_ ?_
                  rotate_left
                  · intro w'
                    go_simp
                    with_reducible rfl
                  rotate_left
                  · simp only [Act.put, List.setIfInBounds_toArray, List.set_cons_zero, List.set_cons_succ, i64_w, i32_w]
                    rfl
                  refine pure_ (i := 2) (N := some 46) (v := ?_) (a' := ?_) #[true, true, true, false, false, false, false, false, false, false, false, false] rfl rfl (any_of HT_.out (by kernel_rfl)) (fun _ _ _ h => h) (Or.inl ⟨by rfl, ?_⟩) ?_ ?_
                  rotate_left
                  · intro w'
                    go_simp
                    with_reducible rfl
                  rotate_left
                  · simp only [Act.put, List.setIfInBounds_toArray, List.set_cons_zero, List.set_cons_succ, i64_w, i32_w]
                    rfl
                  refine pure_ (i := 4) (N := some 48) (v := ?_) (a' := ?_) #[true, true, true, false, true, false, false, false, false, false, false, false] rfl rfl (any_of HT_.out (by kernel_rfl)) (fun _ _ _ h => h) (Or.inl ⟨by rfl, ?_⟩) ?_ ?_
                  rotate_left
                  · intro w'
                    go_simp
                    with_reducible rfl
                  rotate_left
                  · simp only [Act.put, List.setIfInBounds_toArray, List.set_cons_zero, List.set_cons_succ, i64_w, i32_w]
                    rfl
                  refine pure_ (i := 5) (N := some 49) (v := ?_) (a' := ?_) #[true, true, true, false, true, true, false, false, false, false, false, false] rfl rfl (any_of HT_.out (by kernel_rfl)) (fun _ _ _ h => h) (Or.inl ⟨by rfl, ?_⟩) ?_ ?_
                  rotate_left
                  · intro w'
                    go_simp
                    with_reducible rfl
                  rotate_left
                  · simp only [Act.put, List.setIfInBounds_toArray, List.set_cons_zero, List.set_cons_succ, i64_w, i32_w]
                    rfl
                  refine pure_ (i := 6) (N := some 50) (v := ?_) (a' := ?_) #[true, true, true, false, true, true, true, false, false, false, false, false] rfl rfl (any_of HT_.out (by kernel_rfl)) (fun _ _ _ h => h) (Or.inl ⟨by rfl, ?_⟩) ?_ ?_
                  rotate_left
                  · intro w'
                    go_simp
                    with_reducible rfl
                  rotate_left
                  · simp only [Act.put, List.setIfInBounds_toArray, List.set_cons_zero, List.set_cons_succ, i64_w, i32_w]
                    rfl
                  refine pure_ (i := 7) (N := some 51) (v := ?_) (a' := ?_) #[true, true, true, false, true, true, true, true, false, false, false, false] rfl rfl (any_of HT_.out (by kernel_rfl)) (fun _ _ _ h => h) (Or.inl ⟨by rfl, ?_⟩) ?_ ?_
                  rotate_left
                  · intro w'
                    go_simp
                    with_reducible rfl
                  rotate_left
                  · simp only [Act.put, List.setIfInBounds_toArray, List.set_cons_zero, List.set_cons_succ, i64_w, i32_w]
                    rfl
                  refine pure_ (i := 8) (N := some 52) (v := ?_) (a' := ?_) #[true, true, true, false, true, true, true, true, true, false, false, false] rfl rfl (any_of HT_.out (by kernel_rfl)) (fun _ _ _ h => h) (Or.inl ⟨by rfl, ?_⟩) ?_ ?_
                  rotate_left
                  · intro w'
                    go_simp
                    with_reducible rfl
                  rotate_left
                  · simp only [Act.put, List.setIfInBounds_toArray, List.set_cons_zero, List.set_cons_succ, i64_w, i32_w]
                    rfl
                  refine one_ (i := 3) (N := some 47) #[true, true, true, true, true, true, true, true, true, false, false, false] rfl rfl (one_of HT_.out (by kernel_rfl)) (by decide) (fun K hK => ?_)
                  refine goes_ Try.func43 (by kernel_rfl) rfl #[.slice (some ad209) y216.length c13] (by rfl) rfl rfl (by (try simp only [List.map_toArray, List.map_cons, List.map_nil]); first | done | rfl | (simp only [List.length_drop, List.length_take]; rfl)) ?_
                  with_reducible refine (message_Checksum.calls kj11 _ _ y216 t220 _ ?side1 ?side2 A25.out).mono ?_
                  (case side1 => exact pC (Kd.C_below HR219.out HB.out))
                  (case side2 => exact HC219.out)
                  rintro e w' ⟨rfl, ⟨nd, rfl⟩⟩
                  refine ⟨_, rfl, ?_⟩
                  refine hK.out _ _ trivial (fun hHeld => ?_)
                  clear hK K
                  refine norm_ (a' := ?_) ?_ ?_
                  rotate_left
                  · show Act.put _ (some 47) _ = _
                    simp only [Act.put, List.setIfInBounds_toArray, List.set_cons_zero, List.set_cons_succ, i64_w, i32_w]
                    rfl
                  refine one_ (i := 9) (N := some 53) #[true, true, true, true, true, true, true, true, true, true, false, false] rfl rfl (one_of HT_.out (by kernel_rfl)) (by decide) (fun K hK => ?_)
                  refine goes_ Try.func45 (by kernel_rfl) rfl #[.slice A44 y221.length c44] (by rfl) rfl rfl (by (try simp only [List.map_toArray, List.map_cons, List.map_nil]); first | done | rfl | (simp only [List.length_drop, List.length_take]; rfl)) ?_
                  with_reducible refine (journal_number.calls kj11 _ _ y221 t225 _ ?side1 ?side2 A29.out).mono ?_
                  (case side1 => exact pC (Kd.C_below HR224.out (by exact pB HB.out)))
                  (case side2 => exact HC224.out)
                  rintro e w' ⟨rfl, ⟨nd, rfl⟩⟩
                  refine ⟨_, rfl, ?_⟩
                  refine hK.out _ _ trivial (fun hHeld => ?_)
                  clear hK K
                  refine norm_ (a' := ?_) ?_ ?_
                  rotate_left
                  · show Act.put _ (some 53) _ = _
                    simp only [Act.put, List.setIfInBounds_toArray, List.set_cons_zero, List.set_cons_succ, i64_w, i32_w]
                    rfl
                  refine pure_ (i := 10) (N := some 54) (v := ?_) (a' := ?_) #[true, true, true, true, true, true, true, true, true, true, true, false] rfl rfl (any_of HT_.out (by kernel_rfl)) (fun _ _ _ h => h) (Or.inl ⟨by rfl, ?_⟩) ?_ ?_
                  rotate_left
                  · intro w'
                    go_simp
                    with_reducible rfl
                  rotate_left
                  · simp only [Act.put, List.setIfInBounds_toArray, List.set_cons_zero, List.set_cons_succ, i64_w, i32_w]
                    rfl
                  refine pure_ (i := 11) (N := some 43) (v := ?_) (a' := ?_) #[true, true, true, true, true, true, true, true, true, true, true, true] rfl rfl (any_of HT_.out (by kernel_rfl)) (fun _ _ _ h => h) (Or.inl ⟨by rfl, ?_⟩) ?_ ?_
                  rotate_left
                  · intro w'
                    go_simp
                    with_reducible rfl
                  rotate_left
                  · simp only [Act.put, List.setIfInBounds_toArray, List.set_cons_zero, List.set_cons_succ, i64_w, i32_w]
                    rfl
                  refine done_ (done_of HT_.out (by kernel_rfl)) ?_
                  try go_wp2
                  (try rw [Exit.noGoto_ret])
                  go_ret2
                  exact ⟨_, by first | rfl | (simp [errW_none, errW_some] <;> rfl) | (simp only [← hji22]; first | rfl | (simp [errW_none, errW_some] <;> rfl)) | (simp [*, errW_none, errW_some] <;> rfl), by exact pS HO_4.out, by exact pB HB.out⟩

end Go.Proofs.Ythnlepmfjhhgfaa.PJournalOpen
