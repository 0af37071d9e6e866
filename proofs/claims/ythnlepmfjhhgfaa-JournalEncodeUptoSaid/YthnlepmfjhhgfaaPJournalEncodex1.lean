-- Printed by a patched copy of the kit's printer (wip/prt); nothing here is trusted, Lean checks it.
import Derived.Test.YthnlepmfjhhgfaaPJournalEncodex0
namespace Go.Proofs.Ythnlepmfjhhgfaa.PJournalEncode
open Go.RowKit Go.Proofs.YthnlepmfjhhgfaaW.PrintWords Go.Proofs.YthnlepmfjhhgfaaW.PrintLast Go.Proofs.YthnlepmfjhhgfaaW.PrintMore
attribute [local go_sem] max2_int min2_int max_two min_two max_three min_three max_four min_four   -- for this text's walks alone
set_option linter.unusedVariables false
set_option linter.unusedSimpArgs false

/-! ### customsref33_SameBytes: function 17 -/
def customsref33_SameBytes.f (l0 : List Int) (l1 : List Int) : Option (Bool) := some ((strOfNums l0).toList == (strOfNums l1).toList)
set_option maxHeartbeats 8000000 in
set_option maxRecDepth 100000 in
theorem customsref33_SameBytes.calls (A0 : Option Addr) (c0 : Nat) (l0 : List Int) (A1 : Option Addr) (c1 : Nat) (l1 : List Int) (r : Bool) (w : World) (hr0 : Kd.C (Kd.int .u8) w A0 l0.length l0) (hc0 : l0.length ≤ c0) (hr1 : Kd.C (Kd.int .u8) w A1 l1.length l1) (hc1 : l1.length ≤ c1) (h : customsref33_SameBytes.f l0 l1 = some r) :
    Calls Try.prog 17 #[.slice A0 l0.length c0, .slice A1 l1.length c1] w fun e w' => e = .returned (.bool r) ∧ Drawn0 w w' := by
  have HR0 := Aside0.mk hr0
  have HC0 := Aside0.mk hc0
  clear hr0 hc0
  have HR1 := Aside0.mk hr1
  have HC1 := Aside0.mk hc1
  clear hr1 hc1
  have H : (some ((strOfNums l0).toList == (strOfNums l1).toList)) = some r := h
  clear h
  obtain rfl := Option.some.inj H
  have hcv3 := Kd.C_string (P := Try.prog) (A := A0) (c := c0) Try.underlying22 Try.underlying5 Try.underlying9 HR0.out
  have hcv4 := Kd.C_string (P := Try.prog) (A := A1) (c := c1) Try.underlying22 Try.underlying5 Try.underlying9 HR1.out
  go_enter Try.func17, Try.ntmps17
  go_wp2
  go_ret
  exact ⟨by first | rfl | (simp; done) | (simp [*]; done), by repeat (first | exact Drawn0.refl _ | apply Drawn0.step)⟩

/-! ### journal_validKind: function 42 -/
def journal_validKind.f (a0 : Int) : Option (Bool) := if a0 = 1 then (some true) else (some (a0 == 2))
set_option maxHeartbeats 8000000 in
set_option maxRecDepth 100000 in
theorem journal_validKind.calls (a0 : Int) (r : Bool) (w : World) (h : journal_validKind.f a0 = some r) :
    Calls Try.prog 42 #[.int .i64 a0] w fun e w' => e = .returned (.bool r) ∧ Drawn0 w w' := by
  have H : (if a0 = 1 then (some true) else (some (a0 == 2))) = some r := h
  clear h
  by_cases c2 : a0 = 1
  · rw [if_pos c2] at H
    have c2b0 : (a0 == 1) = true := beq_iff_eq.mpr c2
    have c2b1 : (a0 != 1) = false := bne_eq_false_iff_eq.mpr c2
    clear c2
    obtain rfl := Option.some.inj H
    go_enter Try.func42, Try.ntmps42
    go_wp2
    go_ret
    exact ⟨by first | rfl | (simp; done) | (simp [*]; done), by repeat (first | exact Drawn0.refl _ | apply Drawn0.step)⟩
  · rw [if_neg c2] at H
    have c2b0 : (a0 == 1) = false := beq_eq_false_iff_ne.mpr c2
    have c2b1 : (a0 != 1) = true := bne_iff_ne.mpr c2
    obtain rfl := Option.some.inj H
    go_enter Try.func42, Try.ntmps42
    go_wp2
    go_ret
    exact ⟨by first | rfl | (simp; done) | (simp [*]; done), by repeat (first | exact Drawn0.refl _ | apply Drawn0.step)⟩

/-! ### message_Checksum: function 43 -/
def message_Checksum.l0 : Nat → Int → Int → List Int → Int → Int → Option (Int)
  | 0, _, _, _, _, _ => none
  | k + 1, x3, x4, x7, x8, x9 => if x9 < x8 then (if 0 ≤ x9 then (if x9 < (x7.length : Int) then (message_Checksum.l0 k (Int.tmod (wrap64 (x3 + (wrap64 (rd x7 x9)))) 65521) (Int.tmod (wrap64 (x4 + (Int.tmod (wrap64 (x3 + (wrap64 (rd x7 x9)))) 65521))) 65521) x7 x8 (wrap64 (x9 + 1))) else (none)) else (none)) else (some (wrap64 ((wrap64 (x4 * 65536)) + x3)))
def message_Checksum.f (k : Nat) (l0 : List Int) : Option (Int) := message_Checksum.l0 k 1 0 l0 (l0.length : Int) 0
theorem message_Checksum.mono_l : ∀ k, (∀ y0 y1 y2 y3 y4, LeO (message_Checksum.l0 k y0 y1 y2 y3 y4) (message_Checksum.l0 (k + 1) y0 y1 y2 y3 y4))
  | 0 => fun _ _ _ _ _ r h => by simp [message_Checksum.l0] at h
  | k + 1 => by
    have ih0 := message_Checksum.mono_l k
    · intro y0 y1 y2 y3 y4
      unfold message_Checksum.l0
      repeat' first
      | (with_reducible exact ih0 _ _ _ _ _)
      | (with_reducible exact LeO.refl _)
      | (with_reducible exact LeO.none _)
      | (with_reducible refine LeO.ite ?_ ?_)
      | (with_reducible refine LeO.bind ?_ (fun _ => ?_))
      | exact ih0 _ _ _ _ _
      | exact LeO.none _
      | refine LeO.ite ?_ ?_
      | refine LeO.bind ?_ (fun _ => ?_)
theorem message_Checksum.mono : ∀ a0 k, LeO (message_Checksum.f k a0) (message_Checksum.f (k + 1) a0) := by
  intro a0 k
  have ih0 := message_Checksum.mono_l k
  unfold message_Checksum.f
  repeat' first
      | (with_reducible exact ih0 _ _ _ _ _)
      | (with_reducible exact LeO.refl _)
      | (with_reducible exact LeO.none _)
      | (with_reducible refine LeO.ite ?_ ?_)
      | (with_reducible refine LeO.bind ?_ (fun _ => ?_))
      | exact ih0 _ _ _ _ _
      | exact LeO.none _
      | refine LeO.ite ?_ ?_
      | refine LeO.bind ?_ (fun _ => ?_)
set_option maxHeartbeats 8000000 in
set_option maxRecDepth 100000 in
theorem message_Checksum.calls (k : Nat) (A0 : Option Addr) (c0 : Nat) (l0 : List Int) (r : Int) (w : World) (hr0 : Kd.C (Kd.int .u8) w A0 l0.length l0) (hc0 : l0.length ≤ c0) (h : message_Checksum.f k l0 = some r) :
    Calls Try.prog 43 #[.slice A0 l0.length c0] w fun e w' => e = .returned (.int .i64 r) ∧ Drawn0 w w' := by
  have HR0 := Aside0.mk hr0
  have HC0 := Aside0.mk hc0
  clear hr0 hc0
  have H : (message_Checksum.l0 k 1 0 l0 (l0.length : Int) 0) = some r := h
  clear h
  have H' := Aside0.mk H
  clear H
  go_enter Try.func43, Try.ntmps43
  go_wp2
  go_loopg [3, 4, 9] k (fun kq v3 v4 v9 w' => ∃ (x3_1 : Int) (x4_1 : Int) (x9_1 : Int), v3 = .int .i64 x3_1 ∧ v4 = .int .i64 x4_1 ∧ v9 = .int .i64 x9_1 ∧ Aside0 (message_Checksum.l0 kq x3_1 x4_1 l0 (l0.length : Int) x9_1 = some r) ∧ Aside0 (kq ≤ k) ∧ Drawn0 w w')
  case atStart => exact ⟨(1), (0), (0), (by first | rfl | (simp; done) | (simp [*]; done)), (by first | rfl | (simp; done) | (simp [*]; done)), (by first | rfl | (simp; done) | (simp [*]; done)), H', ⟨Nat.le_refl _⟩, by repeat (first | exact Drawn0.refl _ | apply Drawn0.step)⟩
  case round =>
    clear H'
    obtain ⟨x3_1, x4_1, x9_1, rfl, rfl, rfl, HA, HK1, ⟨m1, rfl⟩⟩ := hrel
    cases gk with
    | zero => exact absurd HA.out (by simp [message_Checksum.l0])
    | succ k1 =>
      have H := HA.out
      clear HA
      simp only [message_Checksum.l0] at H
      by_cases c2 : x9_1 < (l0.length : Int)
      · rw [if_pos c2] at H
        have c2b0 : decide (x9_1 < (l0.length : Int)) = true := decide_eq_true c2
        clear c2
        have c3 : 0 ≤ x9_1 := by
          refine Classical.byContradiction fun c3 => ?_
          rw [if_neg c3] at H
          exact absurd H (by simp)
        rw [if_pos c3] at H
        have c3b0 : decide (0 ≤ x9_1) = true := decide_eq_true c3
        clear c3
        have c4 : x9_1 < (l0.length : Int) := by
          refine Classical.byContradiction fun c4 => ?_
          rw [if_neg c4] at H
          exact absurd H (by simp)
        rw [if_pos c4] at H
        have c4b0 : decide (x9_1 < (l0.length : Int)) = true := decide_eq_true c4
        clear c4
        have H' := Aside0.mk H
        clear H
        have p101 : 0 ≤ (x9_1 : Int) := of_decide_eq_true (by first | (with_reducible assumption) | assumption)
        have q101 : x9_1 < (l0.length : Int) := of_decide_eq_true (by first | (with_reducible assumption) | assumption)
        obtain ⟨ad101, e101, hx101_0⟩ := Kd.at_int HR0.out x9_1 p101 q101
        cases e101
        replace p101 := eq_true p101
        replace q101 := eq_true q101
        go_wp2
        go_roundg k1
        case measure => have := HK1.out; omega
        case rel => exact ⟨(Int.tmod (wrap64 (x3_1 + (wrap64 (rd l0 x9_1)))) 65521), (Int.tmod (wrap64 (x4_1 + (Int.tmod (wrap64 (x3_1 + (wrap64 (rd l0 x9_1)))) 65521))) 65521), (wrap64 (x9_1 + 1)), (by first | rfl | (simp; done) | (simp [*]; done)), (by first | rfl | (simp; done) | (simp [*]; done)), (by first | rfl | (simp; done) | (simp [*]; done)), H', ⟨by have := HK1.out; omega⟩, by repeat (first | exact Drawn0.refl _ | apply Drawn0.step)⟩
      · rw [if_neg c2] at H
        have c2b0 : decide (x9_1 < (l0.length : Int)) = false := decide_eq_false c2
        clear c2
        obtain rfl := Option.some.inj H
        go_wp2
        go_ret
        exact ⟨by first | rfl | (simp; done) | (simp [*]; done), by repeat (first | exact Drawn0.refl _ | apply Drawn0.step)⟩

/-! ### journal_Encode: function 28 -/
def journal_Encode.f (k : Nat) (a0_0 : Int) (l0_1 : List Int) : Option (List Int × Int) := (journal_validKind.f a0_0).bind fun t103 => (if t103 = true then (if (l0_1.length : Int) > 60000 then (some (([] : List Int), 8)) else (if 0 ≤ (wrap64 ((wrap64 (5 + (l0_1.length : Int))) + 4)) then (if (wrap64 ((wrap64 (5 + (l0_1.length : Int))) + 4) : Int).toNat ≤ 281474976710656 then ((some (([] : List Int) : List Int)).bind fun y104 => ((some (([((l0_1.length : Int) / 256) % 256, ((l0_1.length : Int)) % 256, ((wrap64 (65535 - (l0_1.length : Int))) / 256) % 256, (wrap64 (65535 - (l0_1.length : Int))) % 256, (a0_0) % 256] : List Int) : List Int)).bind fun y107 => (if y104.length + y107.length < 140737488355328 then ((some (y104 ++ y107 : List Int)).bind fun y110 => (if y110.length + l0_1.length < 140737488355328 then ((some (y110 ++ l0_1 : List Int)).bind fun y113 => ((message_Checksum.f k y113).bind fun t116 => ((some (([(t116 / 16777216) % 256, (t116 / 65536) % 256, (t116 / 256) % 256, (t116) % 256] : List Int) : List Int)).bind fun y117 => (if y113.length + y117.length < 140737488355328 then (some ((y113 ++ y117), 0)) else (none))))) else (none))) else (none)))) else (none)) else (none))) else (some (([] : List Int), 2)))
theorem journal_Encode.mono : ∀ a0 a1 k, LeO (journal_Encode.f k a0 a1) (journal_Encode.f (k + 1) a0 a1) := by
  intro a0 a1 k
  unfold journal_Encode.f
  repeat' first
      | (with_reducible exact message_Checksum.mono _ _)
      | (with_reducible exact LeO.refl _)
      | (with_reducible exact LeO.none _)
      | (with_reducible refine LeO.ite ?_ ?_)
      | (with_reducible refine LeO.bind ?_ (fun _ => ?_))
      | exact message_Checksum.mono _ _
      | exact LeO.none _
      | refine LeO.ite ?_ ?_
      | refine LeO.bind ?_ (fun _ => ?_)
set_option maxHeartbeats 8000000 in
set_option maxRecDepth 100000 in
theorem journal_Encode.calls (k : Nat) (a0_0 : Int) (A0_1 : Option Addr) (c0_1 : Nat) (l0_1 : List Int) (r1 : List Int) (r2 : Int) (w : World) (hr0_1 : Kd.C (Kd.int .u8) w A0_1 l0_1.length l0_1) (hc0_1 : l0_1.length ≤ c0_1) (h : journal_Encode.f k a0_0 l0_1 = some (r1, r2)) :
    Calls Try.prog 28 #[.agg #[.int .i64 a0_0, .slice A0_1 l0_1.length c0_1]] w fun e w' => ∃ v0_ : Value, e = .returned (.tuple #[v0_, .int .i64 r2]) ∧ Kd.R (Kd.int .u8) 5 w' w.heap.size (fun _ => True) v0_ r1 ∧ Below w.heap.size w w' := by
  have hu43 := Try.underlying43
  have HR0_1 := Aside0.mk hr0_1
  have HC0_1 := Aside0.mk hc0_1
  clear hr0_1 hc0_1
  have HB := Aside0.mk (Below.refl w.heap.size w)
  have H : ((journal_validKind.f a0_0).bind fun t103 => (if t103 = true then (if (l0_1.length : Int) > 60000 then (some (([] : List Int), 8)) else (if 0 ≤ (wrap64 ((wrap64 (5 + (l0_1.length : Int))) + 4)) then (if (wrap64 ((wrap64 (5 + (l0_1.length : Int))) + 4) : Int).toNat ≤ 281474976710656 then ((some (([] : List Int) : List Int)).bind fun y104 => ((some (([((l0_1.length : Int) / 256) % 256, ((l0_1.length : Int)) % 256, ((wrap64 (65535 - (l0_1.length : Int))) / 256) % 256, (wrap64 (65535 - (l0_1.length : Int))) % 256, (a0_0) % 256] : List Int) : List Int)).bind fun y107 => (if y104.length + y107.length < 140737488355328 then ((some (y104 ++ y107 : List Int)).bind fun y110 => (if y110.length + l0_1.length < 140737488355328 then ((some (y110 ++ l0_1 : List Int)).bind fun y113 => ((message_Checksum.f k y113).bind fun t116 => ((some (([(t116 / 16777216) % 256, (t116 / 65536) % 256, (t116 / 256) % 256, (t116) % 256] : List Int) : List Int)).bind fun y117 => (if y113.length + y117.length < 140737488355328 then (some ((y113 ++ y117), 0)) else (none))))) else (none))) else (none)))) else (none)) else (none))) else (some (([] : List Int), 2)))) = some (r1, r2) := h
  clear h
  replace H := Option.bind_eq_some_iff.mp H
  obtain ⟨t103, A20, H⟩ := H
  replace H : (if t103 = true then (if (l0_1.length : Int) > 60000 then (some (([] : List Int), 8)) else (if 0 ≤ (wrap64 ((wrap64 (5 + (l0_1.length : Int))) + 4)) then (if (wrap64 ((wrap64 (5 + (l0_1.length : Int))) + 4) : Int).toNat ≤ 281474976710656 then ((some (([] : List Int) : List Int)).bind fun y104 => ((some (([((l0_1.length : Int) / 256) % 256, ((l0_1.length : Int)) % 256, ((wrap64 (65535 - (l0_1.length : Int))) / 256) % 256, (wrap64 (65535 - (l0_1.length : Int))) % 256, (a0_0) % 256] : List Int) : List Int)).bind fun y107 => (if y104.length + y107.length < 140737488355328 then ((some (y104 ++ y107 : List Int)).bind fun y110 => (if y110.length + l0_1.length < 140737488355328 then ((some (y110 ++ l0_1 : List Int)).bind fun y113 => ((message_Checksum.f k y113).bind fun t116 => ((some (([(t116 / 16777216) % 256, (t116 / 65536) % 256, (t116 / 256) % 256, (t116) % 256] : List Int) : List Int)).bind fun y117 => (if y113.length + y117.length < 140737488355328 then (some ((y113 ++ y117), 0)) else (none))))) else (none))) else (none)))) else (none)) else (none))) else (some (([] : List Int), 2))) = some (r1, r2) := H
  have A2 := Aside0.mk A20
  clear A20
  by_cases c3 : t103 = true
  · subst c3
    have H1 : (if (l0_1.length : Int) > 60000 then (some (([] : List Int), 8)) else (if 0 ≤ (wrap64 ((wrap64 (5 + (l0_1.length : Int))) + 4)) then (if (wrap64 ((wrap64 (5 + (l0_1.length : Int))) + 4) : Int).toNat ≤ 281474976710656 then ((some (([] : List Int) : List Int)).bind fun y104 => ((some (([((l0_1.length : Int) / 256) % 256, ((l0_1.length : Int)) % 256, ((wrap64 (65535 - (l0_1.length : Int))) / 256) % 256, (wrap64 (65535 - (l0_1.length : Int))) % 256, (a0_0) % 256] : List Int) : List Int)).bind fun y107 => (if y104.length + y107.length < 140737488355328 then ((some (y104 ++ y107 : List Int)).bind fun y110 => (if y110.length + l0_1.length < 140737488355328 then ((some (y110 ++ l0_1 : List Int)).bind fun y113 => ((message_Checksum.f k y113).bind fun t116 => ((some (([(t116 / 16777216) % 256, (t116 / 65536) % 256, (t116 / 256) % 256, (t116) % 256] : List Int) : List Int)).bind fun y117 => (if y113.length + y117.length < 140737488355328 then (some ((y113 ++ y117), 0)) else (none))))) else (none))) else (none)))) else (none)) else (none))) = some (r1, r2) := by rw [if_pos rfl] at H; exact H
    clear H
    have H := H1
    clear H1
    by_cases c4 : (l0_1.length : Int) > 60000
    · rw [if_pos c4] at H
      have c4b0 : decide (60000 < (l0_1.length : Int)) = true := decide_eq_true c4
      have c4b1 : decide (60000 < l0_1.length) = true := decide_eq_true (by omega)
      clear c4
      simp only [Option.some.injEq, Prod.mk.injEq] at H
      obtain ⟨rfl, rfl⟩ := H
      go_enter Try.func28, Try.ntmps28
      go_wp2_with (first | ((with_reducible refine gate_dst (N := 1) rfl ?_); refine box_event ?hg (N := 1) ?hd (cs := #[.int .i64 a0_0, .slice A0_1 l0_1.length c0_1]) (t := 43) ?hr ?_; (case hd => rfl); (case hg => rfl); (case hr => first | (go_simp; done) | (go_simp; rfl)); intro gb102 hg w5 hbox hb; have n0_ := Aside0.mk (below_step (by exact pB HB.out) hb); have n1_ := Aside0.mk (hbox); have n2_ := Aside0.mk ((by rw [hg]; exact (below_size (by exact pB HB.out)) : w.heap.size ≤ gb102)); have n3_ := Aside0.mk ((by rw [hg]; exact (below_size (by exact pB HB.out)) : w.heap.size ≤ gb102)); clear HB; have HB := n0_; have BK102 := n1_; have GW102 := n2_; have GE102 := n3_; clear n0_ n1_ n2_ n3_; clear hb hbox hg; have hcz6_0 : w5.cell? ⟨gb102, 0, none⟩ = some (.int .i64 a0_0) := (blk_cell BK102.out 0).trans rfl; have hcz6_1 : w5.cell? ⟨gb102, 1, none⟩ = some (.slice A0_1 l0_1.length c0_1) := (blk_cell BK102.out 1).trans rfl; have hfz6_0 := blk_frozen BK102.out 0; have hfz6_1 := blk_frozen BK102.out 1) | ((with_reducible refine gate_callee (f := 42) rfl ?_); refine goesL_ (some 10) rfl rfl Try.func42 (by kernel_rfl) rfl #[.int .i64 a0_0] rfl (by (try simp only [List.map_toArray, List.map_cons, List.map_nil]); first | done | rfl | (simp only [List.length_drop, List.length_take]; rfl)) ?_; (with_reducible refine (journal_validKind.calls a0_0 true _ A2.out).mono ?_); rintro e w' ⟨rfl, ⟨nd, rfl⟩⟩; refine ⟨_, rfl, ?_⟩))
      go_ret2
      exact ⟨_, by first | rfl | (simp [errW_none, errW_some] <;> rfl) | (simp [*, errW_none, errW_some] <;> rfl), by first | exact Kd.R_nil _ _ _ _ _ | exact Kd.N_nil _ _ _ _ _ | exact Kd.V_nil _ _ _ _ _ | exact Kd.Q_nil _ _ _ _ _ | exact Kd.S_nil _ _ _ _ _, by exact pB HB.out⟩
    · rw [if_neg c4] at H
      have c4b0 : decide (60000 < (l0_1.length : Int)) = false := decide_eq_false c4
      have c4b1 : decide (60000 < l0_1.length) = false := decide_eq_false (by omega)
      clear c4
      obtain ⟨ji7, hji7⟩ : ∃ j_ : Int, (wrap64 ((wrap64 (5 + (l0_1.length : Int))) + 4)) = j_ := ⟨_, rfl⟩
      replace H : (if 0 ≤ (ji7) then (if (ji7 : Int).toNat ≤ 281474976710656 then ((some (([] : List Int) : List Int)).bind fun y104 => ((some (([((l0_1.length : Int) / 256) % 256, ((l0_1.length : Int)) % 256, ((wrap64 (65535 - (l0_1.length : Int))) / 256) % 256, (wrap64 (65535 - (l0_1.length : Int))) % 256, (a0_0) % 256] : List Int) : List Int)).bind fun y107 => (if y104.length + y107.length < 140737488355328 then ((some (y104 ++ y107 : List Int)).bind fun y110 => (if y110.length + l0_1.length < 140737488355328 then ((some (y110 ++ l0_1 : List Int)).bind fun y113 => ((message_Checksum.f k y113).bind fun t116 => ((some (([(t116 / 16777216) % 256, (t116 / 65536) % 256, (t116 / 256) % 256, (t116) % 256] : List Int) : List Int)).bind fun y117 => (if y113.length + y117.length < 140737488355328 then (some ((y113 ++ y117), 0)) else (none))))) else (none))) else (none)))) else (none)) else (none)) = some (r1, r2) := by first | (rw [hji7] at H; exact H) | (simp only [hji7] at H ⊢; exact H)
      (try rw [hji7] at A2)
      have hji7w : (IntKind.i64.wrap ((wrap64 (5 + (l0_1.length : Int))) + 4)) = ji7 := (i64_w _).trans hji7
      have c8 : 0 ≤ (ji7) := by
        refine Classical.byContradiction fun c8 => ?_
        rw [if_neg c8] at H
        exact absurd H (by simp)
      rw [if_pos c8] at H
      have c8b0 := eq_true c8
      have c8b1 : decide (0 ≤ (ji7)) = true := decide_eq_true c8
      clear c8
      have c9 : (ji7 : Int).toNat ≤ 281474976710656 := by
        refine Classical.byContradiction fun c9 => ?_
        rw [if_neg c9] at H
        exact absurd H (by simp)
      rw [if_pos c9] at H
      have c9b0 := eq_true c9
      have c9b1 : decide ((ji7 : Int).toNat ≤ 281474976710656) = true := decide_eq_true c9
      clear c9
      obtain ⟨y104, hy104⟩ : ∃ y_ : List Int, y_ = (([] : List Int)) := ⟨_, rfl⟩
      replace H : ((some (([((l0_1.length : Int) / 256) % 256, ((l0_1.length : Int)) % 256, ((wrap64 (65535 - (l0_1.length : Int))) / 256) % 256, (wrap64 (65535 - (l0_1.length : Int))) % 256, (a0_0) % 256] : List Int) : List Int)).bind fun y107 => (if y104.length + y107.length < 140737488355328 then ((some (y104 ++ y107 : List Int)).bind fun y110 => (if y110.length + l0_1.length < 140737488355328 then ((some (y110 ++ l0_1 : List Int)).bind fun y113 => ((message_Checksum.f k y113).bind fun t116 => ((some (([(t116 / 16777216) % 256, (t116 / 65536) % 256, (t116 / 256) % 256, (t116) % 256] : List Int) : List Int)).bind fun y117 => (if y113.length + y117.length < 140737488355328 then (some ((y113 ++ y117), 0)) else (none))))) else (none))) else (none))) = some (r1, r2) := by first | (rw [hy104]; with_reducible exact H) | (have H2_ := (Option.bind_some _ _).symm.trans H; rw [hy104]; with_reducible exact H2_) | (have H2_ := (Option.bind_some _ _).symm.trans H; with_reducible exact H2_) | with_reducible exact H | (rw [hy104]; exact H) | exact H
      have Ny104 := Aside0.mk hy104
      clear hy104
      obtain ⟨y107, hy107⟩ : ∃ y_ : List Int, y_ = (([((l0_1.length : Int) / 256) % 256, ((l0_1.length : Int)) % 256, ((wrap64 (65535 - (l0_1.length : Int))) / 256) % 256, (wrap64 (65535 - (l0_1.length : Int))) % 256, (a0_0) % 256] : List Int)) := ⟨_, rfl⟩
      replace H : (if y104.length + y107.length < 140737488355328 then ((some (y104 ++ y107 : List Int)).bind fun y110 => (if y110.length + l0_1.length < 140737488355328 then ((some (y110 ++ l0_1 : List Int)).bind fun y113 => ((message_Checksum.f k y113).bind fun t116 => ((some (([(t116 / 16777216) % 256, (t116 / 65536) % 256, (t116 / 256) % 256, (t116) % 256] : List Int) : List Int)).bind fun y117 => (if y113.length + y117.length < 140737488355328 then (some ((y113 ++ y117), 0)) else (none))))) else (none))) else (none)) = some (r1, r2) := by first | (rw [hy107]; with_reducible exact H) | (have H2_ := (Option.bind_some _ _).symm.trans H; rw [hy107]; with_reducible exact H2_) | (have H2_ := (Option.bind_some _ _).symm.trans H; with_reducible exact H2_) | with_reducible exact H | (rw [hy107]; exact H) | exact H
      have Ny107 := Aside0.mk hy107
      clear hy107
      have c10 : y104.length + y107.length < 140737488355328 := by
        refine Classical.byContradiction fun c10 => ?_
        rw [if_neg c10] at H
        exact absurd H (by simp)
      rw [if_pos c10] at H
      have LMc10 := Aside0.mk c10
      clear c10
      obtain ⟨y110, hy110⟩ : ∃ y_ : List Int, y_ = (y104 ++ y107) := ⟨_, rfl⟩
      replace H : (if y110.length + l0_1.length < 140737488355328 then ((some (y110 ++ l0_1 : List Int)).bind fun y113 => ((message_Checksum.f k y113).bind fun t116 => ((some (([(t116 / 16777216) % 256, (t116 / 65536) % 256, (t116 / 256) % 256, (t116) % 256] : List Int) : List Int)).bind fun y117 => (if y113.length + y117.length < 140737488355328 then (some ((y113 ++ y117), 0)) else (none))))) else (none)) = some (r1, r2) := by first | (rw [hy110]; with_reducible exact H) | (have H2_ := (Option.bind_some _ _).symm.trans H; rw [hy110]; with_reducible exact H2_) | (have H2_ := (Option.bind_some _ _).symm.trans H; with_reducible exact H2_) | with_reducible exact H | (rw [hy110]; exact H) | exact H
      have Ny110 := Aside0.mk hy110
      clear hy110
      have c11 : y110.length + l0_1.length < 140737488355328 := by
        refine Classical.byContradiction fun c11 => ?_
        rw [if_neg c11] at H
        exact absurd H (by simp)
      rw [if_pos c11] at H
      have LMc11 := Aside0.mk c11
      clear c11
      obtain ⟨y113, hy113⟩ : ∃ y_ : List Int, y_ = (y110 ++ l0_1) := ⟨_, rfl⟩
      replace H : ((message_Checksum.f k y113).bind fun t116 => ((some (([(t116 / 16777216) % 256, (t116 / 65536) % 256, (t116 / 256) % 256, (t116) % 256] : List Int) : List Int)).bind fun y117 => (if y113.length + y117.length < 140737488355328 then (some ((y113 ++ y117), 0)) else (none)))) = some (r1, r2) := by first | (rw [hy113]; with_reducible exact H) | (have H2_ := (Option.bind_some _ _).symm.trans H; rw [hy113]; with_reducible exact H2_) | (have H2_ := (Option.bind_some _ _).symm.trans H; with_reducible exact H2_) | with_reducible exact H | (rw [hy113]; exact H) | exact H
      have Ny113 := Aside0.mk hy113
      clear hy113
      replace H := Option.bind_eq_some_iff.mp H
      obtain ⟨t116, A120, H⟩ := H
      replace H : ((some (([(t116 / 16777216) % 256, (t116 / 65536) % 256, (t116 / 256) % 256, (t116) % 256] : List Int) : List Int)).bind fun y117 => (if y113.length + y117.length < 140737488355328 then (some ((y113 ++ y117), 0)) else (none))) = some (r1, r2) := H
      have A12 := Aside0.mk A120
      clear A120
      obtain ⟨y117, hy117⟩ : ∃ y_ : List Int, y_ = (([(t116 / 16777216) % 256, (t116 / 65536) % 256, (t116 / 256) % 256, (t116) % 256] : List Int)) := ⟨_, rfl⟩
      replace H : (if y113.length + y117.length < 140737488355328 then (some ((y113 ++ y117), 0)) else (none)) = some (r1, r2) := by first | (rw [hy117]; with_reducible exact H) | (have H2_ := (Option.bind_some _ _).symm.trans H; rw [hy117]; with_reducible exact H2_) | (have H2_ := (Option.bind_some _ _).symm.trans H; with_reducible exact H2_) | with_reducible exact H | (rw [hy117]; exact H) | exact H
      have Ny117 := Aside0.mk hy117
      clear hy117
      have c13 : y113.length + y117.length < 140737488355328 := by
        refine Classical.byContradiction fun c13 => ?_
        rw [if_neg c13] at H
        exact absurd H (by simp)
      rw [if_pos c13] at H
      have LMc13 := Aside0.mk c13
      clear c13
      obtain ⟨y120, hy120⟩ : ∃ y_ : List Int, y_ = (y113 ++ y117) := ⟨_, rfl⟩
      replace H : (some (y120, 0)) = some (r1, r2) := by first | (rw [hy120]; with_reducible exact H) | (have H2_ := (Option.bind_some _ _).symm.trans H; rw [hy120]; with_reducible exact H2_) | (have H2_ := (Option.bind_some _ _).symm.trans H; with_reducible exact H2_) | with_reducible exact H | (rw [hy120]; exact H) | exact H
      have Ny120 := Aside0.mk hy120
      clear hy120
      simp only [Option.some.injEq, Prod.mk.injEq] at H
      obtain ⟨rfl, rfl⟩ := H
      go_enter Try.func28, Try.ntmps28
      go_wp2_with (first | ((with_reducible refine gate_dst (N := 1) rfl ?_); refine box_event ?hg (N := 1) ?hd (cs := #[.int .i64 a0_0, .slice A0_1 l0_1.length c0_1]) (t := 43) ?hr ?_; (case hd => rfl); (case hg => rfl); (case hr => first | (go_simp; done) | (go_simp; rfl)); intro gb102 hg w14 hbox hb; have n0_ := Aside0.mk (below_step (by exact pB HB.out) hb); have n1_ := Aside0.mk (hbox); have n2_ := Aside0.mk ((by rw [hg]; exact (below_size (by exact pB HB.out)) : w.heap.size ≤ gb102)); have n3_ := Aside0.mk ((by rw [hg]; exact (below_size (by exact pB HB.out)) : w.heap.size ≤ gb102)); clear HB; have HB := n0_; have BK102 := n1_; have GW102 := n2_; have GE102 := n3_; clear n0_ n1_ n2_ n3_; clear hb hbox hg; have hcz15_0 : w14.cell? ⟨gb102, 0, none⟩ = some (.int .i64 a0_0) := (blk_cell BK102.out 0).trans rfl; have hcz15_1 : w14.cell? ⟨gb102, 1, none⟩ = some (.slice A0_1 l0_1.length c0_1) := (blk_cell BK102.out 1).trans rfl; have hfz15_0 := blk_frozen BK102.out 0; have hfz15_1 := blk_frozen BK102.out 1) | ((with_reducible refine gate_callee (f := 42) rfl ?_); refine goesL_ (some 10) rfl rfl Try.func42 (by kernel_rfl) rfl #[.int .i64 a0_0] rfl (by (try simp only [List.map_toArray, List.map_cons, List.map_nil]); first | done | rfl | (simp only [List.length_drop, List.length_take]; rfl)) ?_; (with_reducible refine (journal_validKind.calls a0_0 true _ A2.out).mono ?_); rintro e w' ⟨rfl, ⟨nd, rfl⟩⟩; refine ⟨_, rfl, ?_⟩) | ((with_reducible refine gate_dst (N := 22) rfl ?_); refine Go.Proofs.Ythnlepmfjhhgfaa.XWords.R_make_cap (Kd.int .u8) _ 5 rfl (N := 22) rfl 22 _ _ rfl Try.underlying22 (.int .u8 0) 1 info5 (by decide) ji7 rfl rfl (of_decide_eq_true (by first | (with_reducible assumption) | assumption)) (Nat.le_trans (Nat.mul_le_mul_right _ (of_decide_eq_true (by first | (with_reducible assumption) | assumption) : ji7.toNat ≤ 281474976710656)) (by omega)) (Below.refl _ _) (Nat.le_refl _) ?_; intro v105 w16 ho17 hb hg_ hnew_; clear hg_ hnew_; (first | rw [← Ny104.out] at ho17 | (simp only [Int.reduceToNat] at ho17; rw [← Ny104.out] at ho17)); have n0_ := Aside0.mk (Kd.R_lower ho17 (below_size (by exact pB HB.out))); have n1_ := Aside0.mk (blk_below (g := gb102) (o := .cells #[.int .i64 a0_0, .slice A0_1 l0_1.length c0_1] 43 (0, 0)) (by exact pK BK102.out) hb); have n2_ := Aside0.mk (below_step (by exact pB HB.out) hb); clear BK102; clear HB; have HO106 := n0_; have BK102 := n1_; have HB := n2_; clear n0_ n1_ n2_; clear hb ho17; have hcz18_0 : w16.cell? ⟨gb102, 0, none⟩ = some (.int .i64 a0_0) := (blk_cell BK102.out 0).trans rfl; have hcz18_1 : w16.cell? ⟨gb102, 1, none⟩ = some (.slice A0_1 l0_1.length c0_1) := (blk_cell BK102.out 1).trans rfl; have hfz18_0 := blk_frozen BK102.out 0; have hfz18_1 := blk_frozen BK102.out 1) | ((with_reducible refine gate_dst (N := 37) rfl ?_); refine Kd.R_lit (Kd.int .u8) _ 5 ?hg (N := 37) ?hd (xs := ([((l0_1.length : Int) / 256) % 256, ((l0_1.length : Int)) % 256, ((wrap64 (65535 - (l0_1.length : Int))) / 256) % 256, (wrap64 (65535 - (l0_1.length : Int))) % 256, (a0_0) % 256] : List Int)) (inner := [.int .u8 (((l0_1.length : Int) / 256) % 256), .int .u8 (((l0_1.length : Int)) % 256), .int .u8 (((wrap64 (65535 - (l0_1.length : Int))) / 256) % 256), .int .u8 ((wrap64 (65535 - (l0_1.length : Int))) % 256), .int .u8 ((a0_0) % 256)]) (ok := fun _ => True) (okp := fun _ => True) ?hr ?hp (fun _ hk => hk) trivial (Below.refl _ _) (Nat.le_refl _) (by simp) ?_; (case hd => rfl); (case hg => rfl); (case hr => first | (go_simp; done) | (go_simp; rfl)); (case hp => exact (Reps.one (show Kd.M (Kd.int .u8) _ _ _ (((l0_1.length : Int) / 256) % 256) [.int .u8 (((l0_1.length : Int) / 256) % 256)] from rfl) (Reps.one (show Kd.M (Kd.int .u8) _ _ _ (((l0_1.length : Int)) % 256) [.int .u8 (((l0_1.length : Int)) % 256)] from rfl) (Reps.one (show Kd.M (Kd.int .u8) _ _ _ (((wrap64 (65535 - (l0_1.length : Int))) / 256) % 256) [.int .u8 (((wrap64 (65535 - (l0_1.length : Int))) / 256) % 256)] from rfl) (Reps.one (show Kd.M (Kd.int .u8) _ _ _ ((wrap64 (65535 - (l0_1.length : Int))) % 256) [.int .u8 ((wrap64 (65535 - (l0_1.length : Int))) % 256)] from rfl) (Reps.one (show Kd.M (Kd.int .u8) _ _ _ ((a0_0) % 256) [.int .u8 ((a0_0) % 256)] from rfl) (Reps.none _ _))))))); intro v108 w19 ho20 hb hg_ hnew_; clear hg_ hnew_; (first | rw [← Ny107.out] at ho20 | (simp only [Int.reduceToNat] at ho20; rw [← Ny107.out] at ho20)); have n0_ := Aside0.mk (Kd.R_elder' (by exact pR HO106.out) (Kd.R_base ho20) hb); have n1_ := Aside0.mk (Kd.R_lower (Kd.R_new' ho20 (Kd.R_lt (by exact pR HO106.out))) (below_size (by exact pB HB.out))); have n2_ := Aside0.mk (blk_below (g := gb102) (o := .cells #[.int .i64 a0_0, .slice A0_1 l0_1.length c0_1] 43 (0, 0)) (by exact pK BK102.out) hb); have n3_ := Aside0.mk (below_step (by exact pB HB.out) hb); clear HO106; clear BK102; clear HB; have HO106 := n0_; have HO109 := n1_; have BK102 := n2_; have HB := n3_; clear n0_ n1_ n2_ n3_; clear hb ho20; obtain ⟨Ao22, co22, eo22⟩ := Kd.R_slice HO109.out; subst eo22) | ((with_reducible refine gate_builtin (b := .append) (xs := #[.tmp 23, .tmp 37]) rfl ?_); at_builtin; refine Kd.R_append_rows (Kd.int .u8) (w0 := w) w.heap.size rfl (.tmp 23) (.tmp 37) 22 5 (.int .u8 0) 1 rfl Try.underlying22 info5 rfl (by decide) (by omega) v105 y104 y107 _ _ _ (fun k_ => some k_ ≠ (.slice Ao22 y107.length co22 : Value).ownBlock) (fun _ => False) rfl rfl ?aO ?aR (fun _ _ h => h) (fun _ h => h.elim) ?aF ?aB ?aS ?aL ?_; (case aR => exact pC (Kd.R_reads' HO109.out).2.2); (case aB => exact (by exact pB HB.out)); (case aF => exact (fun k_ hk => Kd.fresh' (Kd.R_lt (by exact pR HO109.out)) k_ hk)); (case aO => exact (by exact pR (Kd.R_mono HO106.out (fun _ hk => hk.2)))); (case aS => exact (below_size (by exact pB HB.out))); (case aL => have := LMc10.out; omega); intro v111 w21 ho hb hg hat; rw [← Ny110.out] at ho; have n0_ := Aside0.mk (blk_grown (g := gb102) (o := .cells #[.int .i64 a0_0, .slice A0_1 l0_1.length c0_1] 43 (0, 0)) (by exact pK BK102.out) hg (Kd.R_ne HO106.out BK102.out (by decide))); have n1_ := Aside0.mk (Kd.R_after (ok := (fun _ => True)) (by exact pR HO109.out) hg hat); have n2_ := Aside0.mk (hb); have n3_ := Aside0.mk (ho); clear BK102; clear HO109; clear HB; clear HO106; have BK102 := n0_; have HO109 := n1_; have HB := n2_; have HO112 := n3_; clear n0_ n1_ n2_ n3_; clear ho hb hg hat; have hcz23_0 : w21.cell? ⟨gb102, 0, none⟩ = some (.int .i64 a0_0) := (blk_cell BK102.out 0).trans rfl; have hcz23_1 : w21.cell? ⟨gb102, 1, none⟩ = some (.slice A0_1 l0_1.length c0_1) := (blk_cell BK102.out 1).trans rfl; have hfz23_0 := blk_frozen BK102.out 0; have hfz23_1 := blk_frozen BK102.out 1) | ((with_reducible refine gate_builtin (b := .append) (xs := #[.tmp 39, .tmp 41]) rfl ?_); at_builtin; refine Kd.R_append_rows (Kd.int .u8) (w0 := w) w.heap.size rfl (.tmp 39) (.tmp 41) 22 5 (.int .u8 0) 1 rfl Try.underlying22 info5 rfl (by decide) (by omega) v111 y110 l0_1 _ _ _ (fun _ => True) (fun _ => False) rfl rfl ?aO ?aR (fun _ _ h => h) (fun _ h => h.elim) ?aF ?aB ?aS ?aL ?_; (case aR => exact pC (Kd.C_below HR0_1.out HB.out)); (case aB => exact (by exact pB HB.out)); (case aF => exact (fun _ _ => trivial)); (case aO => exact (by exact pR (Kd.R_mono HO112.out (fun _ hk => trivial)))); (case aS => exact (below_size (by exact pB HB.out))); (case aL => have := LMc11.out; omega); intro v114 w24 ho hb hg hat; rw [← Ny113.out] at ho; have n0_ := Aside0.mk (hb); have n1_ := Aside0.mk (ho); clear HB; clear HO112; have HB := n0_; have HO115 := n1_; clear n0_ n1_; clear ho hb hg hat; obtain ⟨Ao25, co25, eo25⟩ := Kd.R_slice HO115.out; subst eo25) | ((with_reducible refine gate_callee (f := 43) rfl ?_); refine goesL_ (some 44) rfl rfl Try.func43 (by kernel_rfl) rfl #[.slice Ao25 y113.length co25] rfl (by (try simp only [List.map_toArray, List.map_cons, List.map_nil]); first | done | rfl | (simp only [List.length_drop, List.length_take]; rfl)) ?_; (with_reducible refine (message_Checksum.calls k _ _ y113 t116 _ ?side1 ?side2 A12.out).mono ?_); (case side1 => exact pC (Kd.R_reads' HO115.out).2.2); (case side2 => exact (Kd.R_reads' HO115.out).2.1); rintro e w' ⟨rfl, ⟨nd, rfl⟩⟩; refine ⟨_, rfl, ?_⟩) | ((with_reducible refine gate_dst (N := 57) rfl ?_); refine Kd.R_lit (Kd.int .u8) _ 5 ?hg (N := 57) ?hd (xs := ([(t116 / 16777216) % 256, (t116 / 65536) % 256, (t116 / 256) % 256, (t116) % 256] : List Int)) (inner := [.int .u8 ((t116 / 16777216) % 256), .int .u8 ((t116 / 65536) % 256), .int .u8 ((t116 / 256) % 256), .int .u8 ((t116) % 256)]) (ok := fun _ => True) (okp := fun _ => True) ?hr ?hp (fun _ hk => hk) trivial (Below.refl _ _) (Nat.le_refl _) (by simp) ?_; (case hd => rfl); (case hg => rfl); (case hr => first | (go_simp; done) | (go_simp; rfl)); (case hp => exact (Reps.one (show Kd.M (Kd.int .u8) _ _ _ ((t116 / 16777216) % 256) [.int .u8 ((t116 / 16777216) % 256)] from rfl) (Reps.one (show Kd.M (Kd.int .u8) _ _ _ ((t116 / 65536) % 256) [.int .u8 ((t116 / 65536) % 256)] from rfl) (Reps.one (show Kd.M (Kd.int .u8) _ _ _ ((t116 / 256) % 256) [.int .u8 ((t116 / 256) % 256)] from rfl) (Reps.one (show Kd.M (Kd.int .u8) _ _ _ ((t116) % 256) [.int .u8 ((t116) % 256)] from rfl) (Reps.none _ _)))))); intro v118 w26 ho27 hb hg_ hnew_; clear hg_ hnew_; (first | rw [← Ny117.out] at ho27 | (simp only [Int.reduceToNat] at ho27; rw [← Ny117.out] at ho27)); have n0_ := Aside0.mk (Kd.R_elder' (by exact pR HO115.out) (Kd.R_base ho27) hb); have n1_ := Aside0.mk (Kd.R_lower (Kd.R_new' ho27 (Kd.R_lt (by exact pR HO115.out))) (below_size (by exact pB HB.out))); have n2_ := Aside0.mk (below_step (by exact pB HB.out) hb); clear HO115; clear HB; have HO115 := n0_; have HO119 := n1_; have HB := n2_; clear n0_ n1_ n2_; clear hb ho27; obtain ⟨Ao29, co29, eo29⟩ := Kd.R_slice HO119.out; subst eo29) | ((with_reducible refine gate_builtin (b := .append) (xs := #[.tmp 45, .tmp 57]) rfl ?_); at_builtin; refine Kd.R_append_rows (Kd.int .u8) (w0 := w) w.heap.size rfl (.tmp 45) (.tmp 57) 22 5 (.int .u8 0) 1 rfl Try.underlying22 info5 rfl (by decide) (by omega) (.slice Ao25 y113.length co25) y113 y117 _ _ _ (fun k_ => some k_ ≠ (.slice Ao29 y117.length co29 : Value).ownBlock) (fun _ => False) rfl rfl ?aO ?aR (fun _ _ h => h) (fun _ h => h.elim) ?aF ?aB ?aS ?aL ?_; (case aR => exact pC (Kd.R_reads' HO119.out).2.2); (case aB => exact (by exact pB HB.out)); (case aF => exact (fun k_ hk => Kd.fresh' (Kd.R_lt (by exact pR HO119.out)) k_ hk)); (case aO => exact (by exact pR (Kd.R_mono HO115.out (fun _ hk => hk.2)))); (case aS => exact (below_size (by exact pB HB.out))); (case aL => have := LMc13.out; omega); intro v121 w28 ho hb hg hat; rw [← Ny120.out] at ho; have n0_ := Aside0.mk (Kd.R_after (ok := (fun _ => True)) (by exact pR HO119.out) hg hat); have n1_ := Aside0.mk (hb); have n2_ := Aside0.mk (ho); clear HO119; clear HB; clear HO115; have HO119 := n0_; have HB := n1_; have HO122 := n2_; clear n0_ n1_ n2_; clear ho hb hg hat))
      go_ret2
      exact ⟨_, by first | rfl | (simp [errW_none, errW_some] <;> rfl) | (simp only [← hji7]; first | rfl | (simp [errW_none, errW_some] <;> rfl)) | (simp [*, errW_none, errW_some] <;> rfl), by exact pR (Kd.R_mono HO122.out (fun _ hk => trivial)), by exact pB HB.out⟩
  · replace c3 := Bool.eq_false_iff.mpr c3
    subst c3
    have H1 : (some (([] : List Int), 2)) = some (r1, r2) := by rw [if_neg (show ¬ (false = true) by decide)] at H; exact H
    clear H
    have H := H1
    clear H1
    simp only [Option.some.injEq, Prod.mk.injEq] at H
    obtain ⟨rfl, rfl⟩ := H
    go_enter Try.func28, Try.ntmps28
    go_wp2_with (first | ((with_reducible refine gate_dst (N := 1) rfl ?_); refine box_event ?hg (N := 1) ?hd (cs := #[.int .i64 a0_0, .slice A0_1 l0_1.length c0_1]) (t := 43) ?hr ?_; (case hd => rfl); (case hg => rfl); (case hr => first | (go_simp; done) | (go_simp; rfl)); intro gb102 hg w30 hbox hb; have n0_ := Aside0.mk (below_step (by exact pB HB.out) hb); have n1_ := Aside0.mk (hbox); have n2_ := Aside0.mk ((by rw [hg]; exact (below_size (by exact pB HB.out)) : w.heap.size ≤ gb102)); have n3_ := Aside0.mk ((by rw [hg]; exact (below_size (by exact pB HB.out)) : w.heap.size ≤ gb102)); clear HB; have HB := n0_; have BK102 := n1_; have GW102 := n2_; have GE102 := n3_; clear n0_ n1_ n2_ n3_; clear hb hbox hg; have hcz31_0 : w30.cell? ⟨gb102, 0, none⟩ = some (.int .i64 a0_0) := (blk_cell BK102.out 0).trans rfl; have hcz31_1 : w30.cell? ⟨gb102, 1, none⟩ = some (.slice A0_1 l0_1.length c0_1) := (blk_cell BK102.out 1).trans rfl; have hfz31_0 := blk_frozen BK102.out 0; have hfz31_1 := blk_frozen BK102.out 1) | ((with_reducible refine gate_callee (f := 42) rfl ?_); refine goesL_ (some 10) rfl rfl Try.func42 (by kernel_rfl) rfl #[.int .i64 a0_0] rfl (by (try simp only [List.map_toArray, List.map_cons, List.map_nil]); first | done | rfl | (simp only [List.length_drop, List.length_take]; rfl)) ?_; (with_reducible refine (journal_validKind.calls a0_0 false _ A2.out).mono ?_); rintro e w' ⟨rfl, ⟨nd, rfl⟩⟩; refine ⟨_, rfl, ?_⟩))
    go_ret2
    exact ⟨_, by first | rfl | (simp [errW_none, errW_some] <;> rfl) | (simp [*, errW_none, errW_some] <;> rfl), by first | exact Kd.R_nil _ _ _ _ _ | exact Kd.N_nil _ _ _ _ _ | exact Kd.V_nil _ _ _ _ _ | exact Kd.Q_nil _ _ _ _ _ | exact Kd.S_nil _ _ _ _ _, by exact pB HB.out⟩

/-! ### customsref06_Checksum: function 44 -/
def customsref06_Checksum.l0 : Nat → List Int → Int → Int → Int → Option (Int)
  | 0, _, _, _, _ => none
  | k + 1, x0, x3, x4, x5 => if x5 < (x0.length : Int) then (if 0 ≤ x5 then (customsref06_Checksum.l0 k x0 (Int.tmod (wrap64 (x3 + (wrap64 (rd x0 x5)))) 65521) (Int.tmod (wrap64 (x4 + (Int.tmod (wrap64 (x3 + (wrap64 (rd x0 x5)))) 65521))) 65521) (wrap64 (x5 + 1))) else (none)) else (some (wrap64 ((wrap64 (x4 * 65536)) + x3)))
def customsref06_Checksum.f (k : Nat) (l0 : List Int) : Option (Int) := customsref06_Checksum.l0 k l0 1 0 0
theorem customsref06_Checksum.mono_l : ∀ k, (∀ y0 y1 y2 y3, LeO (customsref06_Checksum.l0 k y0 y1 y2 y3) (customsref06_Checksum.l0 (k + 1) y0 y1 y2 y3))
  | 0 => fun _ _ _ _ r h => by simp [customsref06_Checksum.l0] at h
  | k + 1 => by
    have ih0 := customsref06_Checksum.mono_l k
    · intro y0 y1 y2 y3
      unfold customsref06_Checksum.l0
      repeat' first
      | (with_reducible exact ih0 _ _ _ _)
      | (with_reducible exact LeO.refl _)
      | (with_reducible exact LeO.none _)
      | (with_reducible refine LeO.ite ?_ ?_)
      | (with_reducible refine LeO.bind ?_ (fun _ => ?_))
      | exact ih0 _ _ _ _
      | exact LeO.none _
      | refine LeO.ite ?_ ?_
      | refine LeO.bind ?_ (fun _ => ?_)
theorem customsref06_Checksum.mono : ∀ a0 k, LeO (customsref06_Checksum.f k a0) (customsref06_Checksum.f (k + 1) a0) := by
  intro a0 k
  have ih0 := customsref06_Checksum.mono_l k
  unfold customsref06_Checksum.f
  repeat' first
      | (with_reducible exact ih0 _ _ _ _)
      | (with_reducible exact LeO.refl _)
      | (with_reducible exact LeO.none _)
      | (with_reducible refine LeO.ite ?_ ?_)
      | (with_reducible refine LeO.bind ?_ (fun _ => ?_))
      | exact ih0 _ _ _ _
      | exact LeO.none _
      | refine LeO.ite ?_ ?_
      | refine LeO.bind ?_ (fun _ => ?_)
set_option maxHeartbeats 8000000 in
set_option maxRecDepth 100000 in
theorem customsref06_Checksum.calls (k : Nat) (A0 : Option Addr) (c0 : Nat) (l0 : List Int) (r : Int) (w : World) (hr0 : Kd.C (Kd.int .u8) w A0 l0.length l0) (hc0 : l0.length ≤ c0) (h : customsref06_Checksum.f k l0 = some r) :
    Calls Try.prog 44 #[.slice A0 l0.length c0] w fun e w' => e = .returned (.int .i64 r) ∧ Drawn0 w w' := by
  have HR0 := Aside0.mk hr0
  have HC0 := Aside0.mk hc0
  clear hr0 hc0
  have H : (customsref06_Checksum.l0 k l0 1 0 0) = some r := h
  clear h
  have H' := Aside0.mk H
  clear H
  go_enter Try.func44, Try.ntmps44
  go_wp2
  go_loopg [3, 4, 5] k (fun kq v3 v4 v5 w' => ∃ (x3_1 : Int) (x4_1 : Int) (x5_1 : Int), v3 = .int .i64 x3_1 ∧ v4 = .int .i64 x4_1 ∧ v5 = .int .i64 x5_1 ∧ Aside0 (customsref06_Checksum.l0 kq l0 x3_1 x4_1 x5_1 = some r) ∧ Aside0 (kq ≤ k) ∧ Drawn0 w w')
  case atStart => exact ⟨(1), (0), (0), (by first | rfl | (simp; done) | (simp [*]; done)), (by first | rfl | (simp; done) | (simp [*]; done)), (by first | rfl | (simp; done) | (simp [*]; done)), H', ⟨Nat.le_refl _⟩, by repeat (first | exact Drawn0.refl _ | apply Drawn0.step)⟩
  case round =>
    clear H'
    obtain ⟨x3_1, x4_1, x5_1, rfl, rfl, rfl, HA, HK1, ⟨m1, rfl⟩⟩ := hrel
    cases gk with
    | zero => exact absurd HA.out (by simp [customsref06_Checksum.l0])
    | succ k1 =>
      have H := HA.out
      clear HA
      simp only [customsref06_Checksum.l0] at H
      by_cases c2 : x5_1 < (l0.length : Int)
      · rw [if_pos c2] at H
        have c2b0 : decide (x5_1 < (l0.length : Int)) = true := decide_eq_true c2
        clear c2
        have c3 : 0 ≤ x5_1 := by
          refine Classical.byContradiction fun c3 => ?_
          rw [if_neg c3] at H
          exact absurd H (by simp)
        rw [if_pos c3] at H
        have c3b0 : decide (0 ≤ x5_1) = true := decide_eq_true c3
        clear c3
        have H' := Aside0.mk H
        clear H
        have p123 : 0 ≤ (x5_1 : Int) := of_decide_eq_true (by first | (with_reducible assumption) | assumption)
        have q123 : x5_1 < (l0.length : Int) := of_decide_eq_true (by first | (with_reducible assumption) | assumption)
        obtain ⟨ad123, e123, hx123_0⟩ := Kd.at_int HR0.out x5_1 p123 q123
        cases e123
        replace p123 := eq_true p123
        replace q123 := eq_true q123
        go_wp2
        go_roundg k1
        case measure => have := HK1.out; omega
        case rel => exact ⟨(Int.tmod (wrap64 (x3_1 + (wrap64 (rd l0 x5_1)))) 65521), (Int.tmod (wrap64 (x4_1 + (Int.tmod (wrap64 (x3_1 + (wrap64 (rd l0 x5_1)))) 65521))) 65521), (wrap64 (x5_1 + 1)), (by first | rfl | (simp; done) | (simp [*]; done)), (by first | rfl | (simp; done) | (simp [*]; done)), (by first | rfl | (simp; done) | (simp [*]; done)), H', ⟨by have := HK1.out; omega⟩, by repeat (first | exact Drawn0.refl _ | apply Drawn0.step)⟩
      · rw [if_neg c2] at H
        have c2b0 : decide (x5_1 < (l0.length : Int)) = false := decide_eq_false c2
        clear c2
        obtain rfl := Option.some.inj H
        go_wp2
        go_ret
        exact ⟨by first | rfl | (simp; done) | (simp [*]; done), by repeat (first | exact Drawn0.refl _ | apply Drawn0.step)⟩

/-! ### customsref33_Encode: function 29 -/
def customsref33_Encode.j0 : Nat → Bool → Int → List Int → Option (List Int × Int)
  | 0, _, _, _ => none
  | k + 1, x14, x125000, x125001 => if x14 = true then (some (([] : List Int), 2)) else (if (x125001.length : Int) > 60000 then (some (([] : List Int), 8)) else ((some (([(wrap64 ((x125001.length : Int) / 256)) % 256, (x125001.length : Int) % 256, (wrap64 (255 - (wrap64 ((x125001.length : Int) / 256)))) % 256, 255 - ((x125001.length : Int) % 256), (x125000) % 256] : List Int) : List Int)).bind fun y125 => (if y125.length + x125001.length < 140737488355328 then ((some (y125 ++ x125001 : List Int)).bind fun y128 => ((customsref06_Checksum.f k y128).bind fun t131 => ((some (([(wrap64 (Int.tdiv t131 16777216)) % 256, (Int.tmod (wrap64 (Int.tdiv t131 65536)) 256) % 256, (Int.tmod (wrap64 (Int.tdiv t131 256)) 256) % 256, (Int.tmod t131 256) % 256] : List Int) : List Int)).bind fun y132 => (if y128.length + y132.length < 140737488355328 then (some ((y128 ++ y132), 0)) else (none))))) else (none))))
def customsref33_Encode.f (k : Nat) (a0_0 : Int) (l0_1 : List Int) : Option (List Int × Int) := if a0_0 = 1 then (customsref33_Encode.j0 k false a0_0 l0_1) else (customsref33_Encode.j0 k (a0_0 != 2) a0_0 l0_1)
theorem customsref33_Encode.mono_l : ∀ k, (∀ y0 y1 y2, LeO (customsref33_Encode.j0 k y0 y1 y2) (customsref33_Encode.j0 (k + 1) y0 y1 y2))
  | 0 => fun _ _ _ r h => by simp [customsref33_Encode.j0] at h
  | k + 1 => by
    have ih0 := customsref33_Encode.mono_l k
    · intro y0 y1 y2
      unfold customsref33_Encode.j0
      repeat' first
      | (with_reducible exact ih0 _ _ _)
      | (with_reducible exact customsref06_Checksum.mono _ _)
      | (with_reducible exact LeO.refl _)
      | (with_reducible exact LeO.none _)
      | (with_reducible refine LeO.ite ?_ ?_)
      | (with_reducible refine LeO.bind ?_ (fun _ => ?_))
      | exact ih0 _ _ _
      | exact customsref06_Checksum.mono _ _
      | exact LeO.none _
      | refine LeO.ite ?_ ?_
      | refine LeO.bind ?_ (fun _ => ?_)
theorem customsref33_Encode.mono : ∀ a0 a1 k, LeO (customsref33_Encode.f k a0 a1) (customsref33_Encode.f (k + 1) a0 a1) := by
  intro a0 a1 k
  have ih0 := customsref33_Encode.mono_l k
  unfold customsref33_Encode.f
  repeat' first
      | (with_reducible exact ih0 _ _ _)
      | (with_reducible exact customsref06_Checksum.mono _ _)
      | (with_reducible exact LeO.refl _)
      | (with_reducible exact LeO.none _)
      | (with_reducible refine LeO.ite ?_ ?_)
      | (with_reducible refine LeO.bind ?_ (fun _ => ?_))
      | exact ih0 _ _ _
      | exact customsref06_Checksum.mono _ _
      | exact LeO.none _
      | refine LeO.ite ?_ ?_
      | refine LeO.bind ?_ (fun _ => ?_)
set_option maxHeartbeats 8000000 in
set_option maxRecDepth 100000 in
theorem customsref33_Encode.calls (k : Nat) (a0_0 : Int) (A0_1 : Option Addr) (c0_1 : Nat) (l0_1 : List Int) (r1 : List Int) (r2 : Int) (w : World) (hr0_1 : Kd.C (Kd.int .u8) w A0_1 l0_1.length l0_1) (hc0_1 : l0_1.length ≤ c0_1) (h : customsref33_Encode.f k a0_0 l0_1 = some (r1, r2)) :
    Calls Try.prog 29 #[.agg #[.int .i64 a0_0, .slice A0_1 l0_1.length c0_1]] w fun e w' => ∃ v0_ : Value, e = .returned (.tuple #[v0_, .int .i64 r2]) ∧ Kd.R (Kd.int .u8) 5 w' w.heap.size (fun _ => True) v0_ r1 ∧ Below w.heap.size w w' := by
  have hu43 := Try.underlying43
  have HR0_1 := Aside0.mk hr0_1
  have HC0_1 := Aside0.mk hc0_1
  clear hr0_1 hc0_1
  have HB := Aside0.mk (Below.refl w.heap.size w)
  have H : (if a0_0 = 1 then (customsref33_Encode.j0 k false a0_0 l0_1) else (customsref33_Encode.j0 k (a0_0 != 2) a0_0 l0_1)) = some (r1, r2) := h
  clear h
  have HC2 := Aside0.mk H
  clear H
  go_enter Try.func29, Try.ntmps29
  go_upto_region 1 with (first | ((with_reducible refine gate_dst (N := 1) rfl ?_); refine box_event ?hg (N := 1) ?hd (cs := #[.int .i64 a0_0, .slice A0_1 l0_1.length c0_1]) (t := 43) ?hr ?_; (case hd => rfl); (case hg => rfl); (case hr => first | (go_simp; done) | (go_simp; rfl)); intro gb124 hg w3 hbox hb; have n0_ := Aside0.mk (below_step (by exact pB HB.out) hb); have n1_ := Aside0.mk (hbox); have n2_ := Aside0.mk ((by rw [hg]; exact (below_size (by exact pB HB.out)) : w.heap.size ≤ gb124)); have n3_ := Aside0.mk ((by rw [hg]; exact (below_size (by exact pB HB.out)) : w.heap.size ≤ gb124)); clear HB; have HB := n0_; have BK124 := n1_; have GW124 := n2_; have GE124 := n3_; clear n0_ n1_ n2_ n3_; clear hb hbox hg))
  (try simp only [Act.put, List.setIfInBounds_toArray, List.set_cons_zero, List.set_cons_succ])
  go_cut [14] (fun v14 wc => ∃ (kq : Nat) (x14_1 : Bool), v14 = .bool x14_1 ∧ Aside0 (customsref33_Encode.j0 kq x14_1 a0_0 l0_1 = some (r1, r2)) ∧ Aside0 (kq ≤ k) ∧ Aside0 (wc.heap[gb124]? = some (.cells #[.int .i64 a0_0, (.slice A0_1 l0_1.length c0_1)] 43 (0, 0))) ∧ Aside0 (Below w.heap.size w wc))
  case first =>
    have H := HC2.out
    clear HC2
    by_cases c4 : a0_0 = 1
    · rw [if_pos c4] at H
      have c4b0 : (a0_0 == 1) = true := beq_iff_eq.mpr c4
      have c4b1 : (a0_0 != 1) = false := bne_eq_false_iff_eq.mpr c4
      clear c4
      (first | rw [c4b0] | (simp only [i64_w, i32_w]; rw [c4b0]) | skip)
      have H' := Aside0.mk H
      clear H
      have hcz5_0 : w3.cell? ⟨gb124, 0, none⟩ = some (.int .i64 a0_0) := (blk_cell BK124.out 0).trans rfl
      have hcz5_1 : w3.cell? ⟨gb124, 1, none⟩ = some (.slice A0_1 l0_1.length c0_1) := (blk_cell BK124.out 1).trans rfl
      have hfz5_0 := blk_frozen BK124.out 0
      have hfz5_1 := blk_frozen BK124.out 1
      go_wp2
      go_meet
      case rel => exact ⟨_, (false), (by first | rfl | (simp; done) | (simp [*]; done)), H', ⟨by first | omega | exact Nat.le_refl _⟩, ⟨by exact pK BK124.out⟩, ⟨by exact pB HB.out⟩⟩
    · rw [if_neg c4] at H
      have c4b0 : (a0_0 == 1) = false := beq_eq_false_iff_ne.mpr c4
      have c4b1 : (a0_0 != 1) = true := bne_iff_ne.mpr c4
      (first | rw [c4b0] | (simp only [i64_w, i32_w]; rw [c4b0]) | skip)
      have H' := Aside0.mk H
      clear H
      have hcz6_0 : w3.cell? ⟨gb124, 0, none⟩ = some (.int .i64 a0_0) := (blk_cell BK124.out 0).trans rfl
      have hcz6_1 : w3.cell? ⟨gb124, 1, none⟩ = some (.slice A0_1 l0_1.length c0_1) := (blk_cell BK124.out 1).trans rfl
      have hfz6_0 := blk_frozen BK124.out 0
      have hfz6_1 := blk_frozen BK124.out 1
      go_wp2
      go_meet
      case rel => exact ⟨_, ((a0_0 != 2)), (by first | rfl | (simp; done) | (simp [*]; done)), H', ⟨by first | omega | exact Nat.le_refl _⟩, ⟨by exact pK BK124.out⟩, ⟨by exact pB HB.out⟩⟩
  case rest =>
    clear HC2
    try clear c2
    try clear p2
    try clear c4
    try clear c4b0
    try clear c4b1
    try clear hcz5_0
    try clear hcz5_1
    try clear hcz6_0
    try clear hcz6_1
    try clear hfz5_0
    try clear hfz5_1
    try clear hfz6_0
    try clear hfz6_1
    obtain ⟨kq, x14_1, rfl, HA, HJ1, BK124, HB⟩ := hcut
    cases kq with
    | zero => exact absurd HA.out (by simp [customsref33_Encode.j0])
    | succ kj1 =>
      have H := HA.out
      clear HA
      simp only [customsref33_Encode.j0] at H
      by_cases c7 : x14_1 = true
      · subst c7
        have H1 : (some (([] : List Int), 2)) = some (r1, r2) := by rw [if_pos rfl] at H; exact H
        clear H
        have H := H1
        clear H1
        simp only [Option.some.injEq, Prod.mk.injEq] at H
        obtain ⟨rfl, rfl⟩ := H
        go_wp2
        go_ret2
        exact ⟨_, by first | rfl | (simp [errW_none, errW_some] <;> rfl) | (simp [*, errW_none, errW_some] <;> rfl), by first | exact Kd.R_nil _ _ _ _ _ | exact Kd.N_nil _ _ _ _ _ | exact Kd.V_nil _ _ _ _ _ | exact Kd.Q_nil _ _ _ _ _ | exact Kd.S_nil _ _ _ _ _, by exact pB HB.out⟩
      · replace c7 := Bool.eq_false_iff.mpr c7
        subst c7
        have H1 : (if (l0_1.length : Int) > 60000 then (some (([] : List Int), 8)) else ((some (([(wrap64 ((l0_1.length : Int) / 256)) % 256, (l0_1.length : Int) % 256, (wrap64 (255 - (wrap64 ((l0_1.length : Int) / 256)))) % 256, 255 - ((l0_1.length : Int) % 256), (a0_0) % 256] : List Int) : List Int)).bind fun y125 => (if y125.length + l0_1.length < 140737488355328 then ((some (y125 ++ l0_1 : List Int)).bind fun y128 => ((customsref06_Checksum.f kj1 y128).bind fun t131 => ((some (([(wrap64 (Int.tdiv t131 16777216)) % 256, (Int.tmod (wrap64 (Int.tdiv t131 65536)) 256) % 256, (Int.tmod (wrap64 (Int.tdiv t131 256)) 256) % 256, (Int.tmod t131 256) % 256] : List Int) : List Int)).bind fun y132 => (if y128.length + y132.length < 140737488355328 then (some ((y128 ++ y132), 0)) else (none))))) else (none)))) = some (r1, r2) := by rw [if_neg (show ¬ (false = true) by decide)] at H; exact H
        clear H
        have H := H1
        clear H1
        by_cases c8 : (l0_1.length : Int) > 60000
        · rw [if_pos c8] at H
          have c8b0 : decide (60000 < (l0_1.length : Int)) = true := decide_eq_true c8
          have c8b1 : decide (60000 < l0_1.length) = true := decide_eq_true (by omega)
          clear c8
          simp only [Option.some.injEq, Prod.mk.injEq] at H
          obtain ⟨rfl, rfl⟩ := H
          have hcz9_0 : wc.cell? ⟨gb124, 0, none⟩ = some (.int .i64 a0_0) := (blk_cell BK124.out 0).trans rfl
          have hcz9_1 : wc.cell? ⟨gb124, 1, none⟩ = some (.slice A0_1 l0_1.length c0_1) := (blk_cell BK124.out 1).trans rfl
          have hfz9_0 := blk_frozen BK124.out 0
          have hfz9_1 := blk_frozen BK124.out 1
          go_wp2
          go_ret2
          exact ⟨_, by first | rfl | (simp [errW_none, errW_some] <;> rfl) | (simp [*, errW_none, errW_some] <;> rfl), by first | exact Kd.R_nil _ _ _ _ _ | exact Kd.N_nil _ _ _ _ _ | exact Kd.V_nil _ _ _ _ _ | exact Kd.Q_nil _ _ _ _ _ | exact Kd.S_nil _ _ _ _ _, by exact pB HB.out⟩
        · rw [if_neg c8] at H
          have c8b0 : decide (60000 < (l0_1.length : Int)) = false := decide_eq_false c8
          have c8b1 : decide (60000 < l0_1.length) = false := decide_eq_false (by omega)
          clear c8
          obtain ⟨y125, hy125⟩ : ∃ y_ : List Int, y_ = (([(wrap64 ((l0_1.length : Int) / 256)) % 256, (l0_1.length : Int) % 256, (wrap64 (255 - (wrap64 ((l0_1.length : Int) / 256)))) % 256, 255 - ((l0_1.length : Int) % 256), (a0_0) % 256] : List Int)) := ⟨_, rfl⟩
          replace H : (if y125.length + l0_1.length < 140737488355328 then ((some (y125 ++ l0_1 : List Int)).bind fun y128 => ((customsref06_Checksum.f kj1 y128).bind fun t131 => ((some (([(wrap64 (Int.tdiv t131 16777216)) % 256, (Int.tmod (wrap64 (Int.tdiv t131 65536)) 256) % 256, (Int.tmod (wrap64 (Int.tdiv t131 256)) 256) % 256, (Int.tmod t131 256) % 256] : List Int) : List Int)).bind fun y132 => (if y128.length + y132.length < 140737488355328 then (some ((y128 ++ y132), 0)) else (none))))) else (none)) = some (r1, r2) := by first | (rw [hy125]; with_reducible exact H) | (have H2_ := (Option.bind_some _ _).symm.trans H; rw [hy125]; with_reducible exact H2_) | (have H2_ := (Option.bind_some _ _).symm.trans H; with_reducible exact H2_) | with_reducible exact H | (rw [hy125]; exact H) | exact H
          have Ny125 := Aside0.mk hy125
          clear hy125
          have c10 : y125.length + l0_1.length < 140737488355328 := by
            refine Classical.byContradiction fun c10 => ?_
            rw [if_neg c10] at H
            exact absurd H (by simp)
          rw [if_pos c10] at H
          have LMc10 := Aside0.mk c10
          clear c10
          obtain ⟨y128, hy128⟩ : ∃ y_ : List Int, y_ = (y125 ++ l0_1) := ⟨_, rfl⟩
          replace H : ((customsref06_Checksum.f kj1 y128).bind fun t131 => ((some (([(wrap64 (Int.tdiv t131 16777216)) % 256, (Int.tmod (wrap64 (Int.tdiv t131 65536)) 256) % 256, (Int.tmod (wrap64 (Int.tdiv t131 256)) 256) % 256, (Int.tmod t131 256) % 256] : List Int) : List Int)).bind fun y132 => (if y128.length + y132.length < 140737488355328 then (some ((y128 ++ y132), 0)) else (none)))) = some (r1, r2) := by first | (rw [hy128]; with_reducible exact H) | (have H2_ := (Option.bind_some _ _).symm.trans H; rw [hy128]; with_reducible exact H2_) | (have H2_ := (Option.bind_some _ _).symm.trans H; with_reducible exact H2_) | with_reducible exact H | (rw [hy128]; exact H) | exact H
          have Ny128 := Aside0.mk hy128
          clear hy128
          replace H := Option.bind_eq_some_iff.mp H
          obtain ⟨t131, A110, H⟩ := H
          replace H : ((some (([(wrap64 (Int.tdiv t131 16777216)) % 256, (Int.tmod (wrap64 (Int.tdiv t131 65536)) 256) % 256, (Int.tmod (wrap64 (Int.tdiv t131 256)) 256) % 256, (Int.tmod t131 256) % 256] : List Int) : List Int)).bind fun y132 => (if y128.length + y132.length < 140737488355328 then (some ((y128 ++ y132), 0)) else (none))) = some (r1, r2) := H
          have A11 := Aside0.mk A110
          clear A110
          obtain ⟨y132, hy132⟩ : ∃ y_ : List Int, y_ = (([(wrap64 (Int.tdiv t131 16777216)) % 256, (Int.tmod (wrap64 (Int.tdiv t131 65536)) 256) % 256, (Int.tmod (wrap64 (Int.tdiv t131 256)) 256) % 256, (Int.tmod t131 256) % 256] : List Int)) := ⟨_, rfl⟩
          replace H : (if y128.length + y132.length < 140737488355328 then (some ((y128 ++ y132), 0)) else (none)) = some (r1, r2) := by first | (rw [hy132]; with_reducible exact H) | (have H2_ := (Option.bind_some _ _).symm.trans H; rw [hy132]; with_reducible exact H2_) | (have H2_ := (Option.bind_some _ _).symm.trans H; with_reducible exact H2_) | with_reducible exact H | (rw [hy132]; exact H) | exact H
          have Ny132 := Aside0.mk hy132
          clear hy132
          have c12 : y128.length + y132.length < 140737488355328 := by
            refine Classical.byContradiction fun c12 => ?_
            rw [if_neg c12] at H
            exact absurd H (by simp)
          rw [if_pos c12] at H
          have LMc12 := Aside0.mk c12
          clear c12
          obtain ⟨y135, hy135⟩ : ∃ y_ : List Int, y_ = (y128 ++ y132) := ⟨_, rfl⟩
          replace H : (some (y135, 0)) = some (r1, r2) := by first | (rw [hy135]; with_reducible exact H) | (have H2_ := (Option.bind_some _ _).symm.trans H; rw [hy135]; with_reducible exact H2_) | (have H2_ := (Option.bind_some _ _).symm.trans H; with_reducible exact H2_) | with_reducible exact H | (rw [hy135]; exact H) | exact H
          have Ny135 := Aside0.mk hy135
          clear hy135
          simp only [Option.some.injEq, Prod.mk.injEq] at H
          obtain ⟨rfl, rfl⟩ := H
          have hcz13_0 : wc.cell? ⟨gb124, 0, none⟩ = some (.int .i64 a0_0) := (blk_cell BK124.out 0).trans rfl
          have hcz13_1 : wc.cell? ⟨gb124, 1, none⟩ = some (.slice A0_1 l0_1.length c0_1) := (blk_cell BK124.out 1).trans rfl
          have hfz13_0 := blk_frozen BK124.out 0
          have hfz13_1 := blk_frozen BK124.out 1
          go_wp2_with (first | ((with_reducible refine gate_dst (N := 37) rfl ?_); refine Kd.R_lit (Kd.int .u8) _ 5 ?hg (N := 37) ?hd (xs := ([(wrap64 ((l0_1.length : Int) / 256)) % 256, (l0_1.length : Int) % 256, (wrap64 (255 - (wrap64 ((l0_1.length : Int) / 256)))) % 256, 255 - ((l0_1.length : Int) % 256), (a0_0) % 256] : List Int)) (inner := [.int .u8 ((wrap64 ((l0_1.length : Int) / 256)) % 256), .int .u8 ((l0_1.length : Int) % 256), .int .u8 ((wrap64 (255 - (wrap64 ((l0_1.length : Int) / 256)))) % 256), .int .u8 (255 - ((l0_1.length : Int) % 256)), .int .u8 ((a0_0) % 256)]) (ok := fun _ => True) (okp := fun _ => True) ?hr ?hp (fun _ hk => hk) trivial (Below.refl _ _) (Nat.le_refl _) (by simp) ?_; (case hd => rfl); (case hg => rfl); (case hr => first | (go_simp; done) | (go_simp; rfl)); (case hp => exact (Reps.one (show Kd.M (Kd.int .u8) _ _ _ ((wrap64 ((l0_1.length : Int) / 256)) % 256) [.int .u8 ((wrap64 ((l0_1.length : Int) / 256)) % 256)] from rfl) (Reps.one (show Kd.M (Kd.int .u8) _ _ _ ((l0_1.length : Int) % 256) [.int .u8 ((l0_1.length : Int) % 256)] from rfl) (Reps.one (show Kd.M (Kd.int .u8) _ _ _ ((wrap64 (255 - (wrap64 ((l0_1.length : Int) / 256)))) % 256) [.int .u8 ((wrap64 (255 - (wrap64 ((l0_1.length : Int) / 256)))) % 256)] from rfl) (Reps.one (show Kd.M (Kd.int .u8) _ _ _ (255 - ((l0_1.length : Int) % 256)) [.int .u8 (255 - ((l0_1.length : Int) % 256))] from rfl) (Reps.one (show Kd.M (Kd.int .u8) _ _ _ ((a0_0) % 256) [.int .u8 ((a0_0) % 256)] from rfl) (Reps.none _ _))))))); intro v126 w14 ho15 hb hg_ hnew_; clear hg_ hnew_; (first | rw [← Ny125.out] at ho15 | (simp only [Int.reduceToNat] at ho15; rw [← Ny125.out] at ho15)); have n0_ := Aside0.mk (Kd.R_lower ho15 (below_size (by exact pB HB.out))); have n1_ := Aside0.mk (blk_below (g := gb124) (o := .cells #[.int .i64 a0_0, .slice A0_1 l0_1.length c0_1] 43 (0, 0)) (by exact pK BK124.out) hb); have n2_ := Aside0.mk (below_step (by exact pB HB.out) hb); clear BK124; clear HB; have HO127 := n0_; have BK124 := n1_; have HB := n2_; clear n0_ n1_ n2_; clear hb ho15; have hcz16_0 : w14.cell? ⟨gb124, 0, none⟩ = some (.int .i64 a0_0) := (blk_cell BK124.out 0).trans rfl; have hcz16_1 : w14.cell? ⟨gb124, 1, none⟩ = some (.slice A0_1 l0_1.length c0_1) := (blk_cell BK124.out 1).trans rfl; have hfz16_0 := blk_frozen BK124.out 0; have hfz16_1 := blk_frozen BK124.out 1) | ((with_reducible refine gate_builtin (b := .append) (xs := #[.tmp 37, .tmp 39]) rfl ?_); at_builtin; refine Kd.R_append_rows (Kd.int .u8) (w0 := w) w.heap.size rfl (.tmp 37) (.tmp 39) 22 5 (.int .u8 0) 1 rfl Try.underlying22 info5 rfl (by decide) (by omega) v126 y125 l0_1 _ _ _ (fun _ => True) (fun _ => False) rfl rfl ?aO ?aR (fun _ _ h => h) (fun _ h => h.elim) ?aF ?aB ?aS ?aL ?_; (case aR => exact pC (Kd.C_below HR0_1.out HB.out)); (case aB => exact (by exact pB HB.out)); (case aF => exact (fun _ _ => trivial)); (case aO => exact (by exact pR HO127.out)); (case aS => exact (below_size (by exact pB HB.out))); (case aL => have := LMc10.out; omega); intro v129 w17 ho hb hg hat; rw [← Ny128.out] at ho; have n0_ := Aside0.mk (hb); have n1_ := Aside0.mk (ho); clear HB; clear HO127; have HB := n0_; have HO130 := n1_; clear n0_ n1_; clear ho hb hg hat; obtain ⟨Ao18, co18, eo18⟩ := Kd.R_slice HO130.out; subst eo18) | ((with_reducible refine gate_callee (f := 44) rfl ?_); refine goesL_ (some 42) rfl rfl Try.func44 (by kernel_rfl) rfl #[.slice Ao18 y128.length co18] rfl (by (try simp only [List.map_toArray, List.map_cons, List.map_nil]); first | done | rfl | (simp only [List.length_drop, List.length_take]; rfl)) ?_; (with_reducible refine (customsref06_Checksum.calls kj1 _ _ y128 t131 _ ?side1 ?side2 A11.out).mono ?_); (case side1 => exact pC (Kd.R_reads' HO130.out).2.2); (case side2 => exact (Kd.R_reads' HO130.out).2.1); rintro e w' ⟨rfl, ⟨nd, rfl⟩⟩; refine ⟨_, rfl, ?_⟩) | ((with_reducible refine gate_dst (N := 58) rfl ?_); refine Kd.R_lit (Kd.int .u8) _ 5 ?hg (N := 58) ?hd (xs := ([(wrap64 (Int.tdiv t131 16777216)) % 256, (Int.tmod (wrap64 (Int.tdiv t131 65536)) 256) % 256, (Int.tmod (wrap64 (Int.tdiv t131 256)) 256) % 256, (Int.tmod t131 256) % 256] : List Int)) (inner := [.int .u8 ((wrap64 (Int.tdiv t131 16777216)) % 256), .int .u8 ((Int.tmod (wrap64 (Int.tdiv t131 65536)) 256) % 256), .int .u8 ((Int.tmod (wrap64 (Int.tdiv t131 256)) 256) % 256), .int .u8 ((Int.tmod t131 256) % 256)]) (ok := fun _ => True) (okp := fun _ => True) ?hr ?hp (fun _ hk => hk) trivial (Below.refl _ _) (Nat.le_refl _) (by simp) ?_; (case hd => rfl); (case hg => rfl); (case hr => first | (go_simp; done) | (go_simp; rfl)); (case hp => exact (Reps.one (show Kd.M (Kd.int .u8) _ _ _ ((wrap64 (Int.tdiv t131 16777216)) % 256) [.int .u8 ((wrap64 (Int.tdiv t131 16777216)) % 256)] from rfl) (Reps.one (show Kd.M (Kd.int .u8) _ _ _ ((Int.tmod (wrap64 (Int.tdiv t131 65536)) 256) % 256) [.int .u8 ((Int.tmod (wrap64 (Int.tdiv t131 65536)) 256) % 256)] from rfl) (Reps.one (show Kd.M (Kd.int .u8) _ _ _ ((Int.tmod (wrap64 (Int.tdiv t131 256)) 256) % 256) [.int .u8 ((Int.tmod (wrap64 (Int.tdiv t131 256)) 256) % 256)] from rfl) (Reps.one (show Kd.M (Kd.int .u8) _ _ _ ((Int.tmod t131 256) % 256) [.int .u8 ((Int.tmod t131 256) % 256)] from rfl) (Reps.none _ _)))))); intro v133 w19 ho20 hb hg_ hnew_; clear hg_ hnew_; (first | rw [← Ny132.out] at ho20 | (simp only [Int.reduceToNat] at ho20; rw [← Ny132.out] at ho20)); have n0_ := Aside0.mk (Kd.R_elder' (by exact pR HO130.out) (Kd.R_base ho20) hb); have n1_ := Aside0.mk (Kd.R_lower (Kd.R_new' ho20 (Kd.R_lt (by exact pR HO130.out))) (below_size (by exact pB HB.out))); have n2_ := Aside0.mk (below_step (by exact pB HB.out) hb); clear HO130; clear HB; have HO130 := n0_; have HO134 := n1_; have HB := n2_; clear n0_ n1_ n2_; clear hb ho20; obtain ⟨Ao22, co22, eo22⟩ := Kd.R_slice HO134.out; subst eo22) | ((with_reducible refine gate_builtin (b := .append) (xs := #[.tmp 43, .tmp 58]) rfl ?_); at_builtin; refine Kd.R_append_rows (Kd.int .u8) (w0 := w) w.heap.size rfl (.tmp 43) (.tmp 58) 22 5 (.int .u8 0) 1 rfl Try.underlying22 info5 rfl (by decide) (by omega) (.slice Ao18 y128.length co18) y128 y132 _ _ _ (fun k_ => some k_ ≠ (.slice Ao22 y132.length co22 : Value).ownBlock) (fun _ => False) rfl rfl ?aO ?aR (fun _ _ h => h) (fun _ h => h.elim) ?aF ?aB ?aS ?aL ?_; (case aR => exact pC (Kd.R_reads' HO134.out).2.2); (case aB => exact (by exact pB HB.out)); (case aF => exact (fun k_ hk => Kd.fresh' (Kd.R_lt (by exact pR HO134.out)) k_ hk)); (case aO => exact (by exact pR (Kd.R_mono HO130.out (fun _ hk => hk.2)))); (case aS => exact (below_size (by exact pB HB.out))); (case aL => have := LMc12.out; omega); intro v136 w21 ho hb hg hat; rw [← Ny135.out] at ho; have n0_ := Aside0.mk (Kd.R_after (ok := (fun _ => True)) (by exact pR HO134.out) hg hat); have n1_ := Aside0.mk (hb); have n2_ := Aside0.mk (ho); clear HO134; clear HB; clear HO130; have HO134 := n0_; have HB := n1_; have HO137 := n2_; clear n0_ n1_ n2_; clear ho hb hg hat))
          go_ret2
          exact ⟨_, by first | rfl | (simp [errW_none, errW_some] <;> rfl) | (simp [*, errW_none, errW_some] <;> rfl), by exact pR (Kd.R_mono HO137.out (fun _ hk => trivial)), by exact pB HB.out⟩

/-! ### journal_number: function 45 -/
def journal_number.l0 : Nat → Int → List Int → Int → Int → Option (Int)
  | 0, _, _, _, _ => none
  | k + 1, x3, x6, x7, x8 => if x8 < x7 then (if 0 ≤ x8 then (if x8 < (x6.length : Int) then (journal_number.l0 k (Go.bits .or .i64 (wrap64 (x3 * 256)) (wrap64 (rd x6 x8))) x6 x7 (wrap64 (x8 + 1))) else (none)) else (none)) else (some x3)
def journal_number.f (k : Nat) (l0 : List Int) : Option (Int) := journal_number.l0 k 0 l0 (l0.length : Int) 0
theorem journal_number.mono_l : ∀ k, (∀ y0 y1 y2 y3, LeO (journal_number.l0 k y0 y1 y2 y3) (journal_number.l0 (k + 1) y0 y1 y2 y3))
  | 0 => fun _ _ _ _ r h => by simp [journal_number.l0] at h
  | k + 1 => by
    have ih0 := journal_number.mono_l k
    · intro y0 y1 y2 y3
      unfold journal_number.l0
      repeat' first
      | (with_reducible exact ih0 _ _ _ _)
      | (with_reducible exact LeO.refl _)
      | (with_reducible exact LeO.none _)
      | (with_reducible refine LeO.ite ?_ ?_)
      | (with_reducible refine LeO.bind ?_ (fun _ => ?_))
      | exact ih0 _ _ _ _
      | exact LeO.none _
      | refine LeO.ite ?_ ?_
      | refine LeO.bind ?_ (fun _ => ?_)
theorem journal_number.mono : ∀ a0 k, LeO (journal_number.f k a0) (journal_number.f (k + 1) a0) := by
  intro a0 k
  have ih0 := journal_number.mono_l k
  unfold journal_number.f
  repeat' first
      | (with_reducible exact ih0 _ _ _ _)
      | (with_reducible exact LeO.refl _)
      | (with_reducible exact LeO.none _)
      | (with_reducible refine LeO.ite ?_ ?_)
      | (with_reducible refine LeO.bind ?_ (fun _ => ?_))
      | exact ih0 _ _ _ _
      | exact LeO.none _
      | refine LeO.ite ?_ ?_
      | refine LeO.bind ?_ (fun _ => ?_)
set_option maxHeartbeats 8000000 in
set_option maxRecDepth 100000 in
theorem journal_number.calls (k : Nat) (A0 : Option Addr) (c0 : Nat) (l0 : List Int) (r : Int) (w : World) (hr0 : Kd.C (Kd.int .u8) w A0 l0.length l0) (hc0 : l0.length ≤ c0) (h : journal_number.f k l0 = some r) :
    Calls Try.prog 45 #[.slice A0 l0.length c0] w fun e w' => e = .returned (.int .i64 r) ∧ Drawn0 w w' := by
  have HR0 := Aside0.mk hr0
  have HC0 := Aside0.mk hc0
  clear hr0 hc0
  have H : (journal_number.l0 k 0 l0 (l0.length : Int) 0) = some r := h
  clear h
  have H' := Aside0.mk H
  clear H
  go_enter Try.func45, Try.ntmps45
  go_wp2
  go_loopg [3, 8] k (fun kq v3 v8 w' => ∃ (x3_1 : Int) (x8_1 : Int), v3 = .int .i64 x3_1 ∧ v8 = .int .i64 x8_1 ∧ Aside0 (journal_number.l0 kq x3_1 l0 (l0.length : Int) x8_1 = some r) ∧ Aside0 (kq ≤ k) ∧ Drawn0 w w')
  case atStart => exact ⟨(0), (0), (by first | rfl | (simp; done) | (simp [*]; done)), (by first | rfl | (simp; done) | (simp [*]; done)), H', ⟨Nat.le_refl _⟩, by repeat (first | exact Drawn0.refl _ | apply Drawn0.step)⟩
  case round =>
    clear H'
    obtain ⟨x3_1, x8_1, rfl, rfl, HA, HK1, ⟨m1, rfl⟩⟩ := hrel
    cases gk with
    | zero => exact absurd HA.out (by simp [journal_number.l0])
    | succ k1 =>
      have H := HA.out
      clear HA
      simp only [journal_number.l0] at H
      by_cases c2 : x8_1 < (l0.length : Int)
      · rw [if_pos c2] at H
        have c2b0 : decide (x8_1 < (l0.length : Int)) = true := decide_eq_true c2
        clear c2
        have c3 : 0 ≤ x8_1 := by
          refine Classical.byContradiction fun c3 => ?_
          rw [if_neg c3] at H
          exact absurd H (by simp)
        rw [if_pos c3] at H
        have c3b0 : decide (0 ≤ x8_1) = true := decide_eq_true c3
        clear c3
        have c4 : x8_1 < (l0.length : Int) := by
          refine Classical.byContradiction fun c4 => ?_
          rw [if_neg c4] at H
          exact absurd H (by simp)
        rw [if_pos c4] at H
        have c4b0 : decide (x8_1 < (l0.length : Int)) = true := decide_eq_true c4
        clear c4
        have H' := Aside0.mk H
        clear H
        have p138 : 0 ≤ (x8_1 : Int) := of_decide_eq_true (by first | (with_reducible assumption) | assumption)
        have q138 : x8_1 < (l0.length : Int) := of_decide_eq_true (by first | (with_reducible assumption) | assumption)
        obtain ⟨ad138, e138, hx138_0⟩ := Kd.at_int HR0.out x8_1 p138 q138
        cases e138
        replace p138 := eq_true p138
        replace q138 := eq_true q138
        go_wp2
        go_roundg k1
        case measure => have := HK1.out; omega
        case rel => exact ⟨(Go.bits .or .i64 (wrap64 (x3_1 * 256)) (wrap64 (rd l0 x8_1))), (wrap64 (x8_1 + 1)), (by first | rfl | (simp; done) | (simp [*]; done)), (by first | rfl | (simp; done) | (simp [*]; done)), H', ⟨by have := HK1.out; omega⟩, by repeat (first | exact Drawn0.refl _ | apply Drawn0.step)⟩
      · rw [if_neg c2] at H
        have c2b0 : decide (x8_1 < (l0.length : Int)) = false := decide_eq_false c2
        clear c2
        obtain rfl := Option.some.inj H
        go_wp2
        go_ret
        exact ⟨by first | rfl | (simp; done) | (simp [*]; done), by repeat (first | exact Drawn0.refl _ | apply Drawn0.step)⟩

/-! ### slices_Clone_byte_byte: function 46 (proved by hand) -/
def slices_Clone_byte_byte.f (l0 : List Int) : Option (List Int) := Go.Proofs.Ythnlepmfjhhgfaa.XJoined.cloneF l0
theorem slices_Clone_byte_byte.calls (A0 : Option Addr) (c0 : Nat) (l0 : List Int) (r : List Int) (w : World) (hr0 : Kd.C (Kd.int .u8) w A0 l0.length l0) (hc0 : l0.length ≤ c0) (h : slices_Clone_byte_byte.f l0 = some r) :
    Calls Try.prog 46 #[.slice A0 l0.length c0] w fun e w' => ∃ v0_ : Value, e = .returned (v0_) ∧ Kd.R (Kd.int .u8) 5 w' w.heap.size (fun _ => True) v0_ r ∧ Below w.heap.size w w' :=
  Go.Proofs.Ythnlepmfjhhgfaa.XJoined.clone_calls A0 c0 l0 r w hr0 hc0 h

end Go.Proofs.Ythnlepmfjhhgfaa.PJournalEncode
