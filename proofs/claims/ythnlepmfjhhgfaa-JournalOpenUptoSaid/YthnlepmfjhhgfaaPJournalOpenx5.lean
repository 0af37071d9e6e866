-- Printed by a patched copy of the kit's printer (wip/prt); nothing here is trusted, Lean checks it.
import Derived.Test.YthnlepmfjhhgfaaPJournalOpenx0
import Derived.Test.YthnlepmfjhhgfaaPJournalOpenx1
import Derived.Test.YthnlepmfjhhgfaaPJournalOpenx4
namespace Go.Proofs.Ythnlepmfjhhgfaa.PJournalOpen
open Go.RowKit Go.Proofs.YthnlepmfjhhgfaaW.PrintWords Go.Proofs.YthnlepmfjhhgfaaW.PrintLast Go.Proofs.YthnlepmfjhhgfaaW.PrintMore
attribute [local go_sem] max2_int min2_int max_two min_two max_three min_three max_four min_four   -- for this text's walks alone
set_option linter.unusedVariables false
set_option linter.unusedSimpArgs false

/-! ### customsref06_Checksum: function 44 -/
def customsref06_Checksum.l0 : Nat → List Int → Int → Int → Int → Option (Int)
  | 0, _, _, _, _ => none
  | k + 1, x0, x3, x4, x5 => if x5 < (x0.length : Int) then (if 0 ≤ x5 then (customsref06_Checksum.l0 k x0 (Int.tmod (wrap64 (x3 + (wrap64 (rd x0 x5)))) 65521) (Int.tmod (wrap64 (x4 + (Int.tmod (wrap64 (x3 + (wrap64 (rd x0 x5)))) 65521))) 65521) (wrap64 (x5 + 1))) else (none)) else (some (wrap64 ((wrap64 (x4 * 65536)) + x3)))
def customsref06_Checksum.f (k : Nat) (l0 : List Int) : Option (Int) := customsref06_Checksum.l0 k l0 1 0 0
theorem customsref06_Checksum.mono_l : ∀ k, (∀ y0 y1 y2 y3, LeO (customsref06_Checksum.l0 k y0 y1 y2 y3) (customsref06_Checksum.l0 (k + 1) y0 y1 y2 y3))
  | 0 => fun _ _ _ _ r h => by simp [customsref06_Checksum.l0] at h
  | k + 1 => by
    have ih0 := customsref06_Checksum.mono_l k
    · intro y0 y1 y2 y3
      unfold customsref06_Checksum.l0
      repeat' first
      | (with_reducible exact ih0 _ _ _ _)
      | (with_reducible exact LeO.refl _)
      | (with_reducible exact LeO.none _)
      | (with_reducible refine LeO.ite ?_ ?_)
      | (with_reducible refine LeO.bind ?_ (fun _ => ?_))
      | exact ih0 _ _ _ _
      | exact LeO.none _
      | refine LeO.ite ?_ ?_
      | refine LeO.bind ?_ (fun _ => ?_)
theorem customsref06_Checksum.mono : ∀ a0 k, LeO (customsref06_Checksum.f k a0) (customsref06_Checksum.f (k + 1) a0) := by
  intro a0 k
  have ih0 := customsref06_Checksum.mono_l k
  unfold customsref06_Checksum.f
  repeat' first
      | (with_reducible exact ih0 _ _ _ _)
      | (with_reducible exact LeO.refl _)
      | (with_reducible exact LeO.none _)
      | (with_reducible refine LeO.ite ?_ ?_)
      | (with_reducible refine LeO.bind ?_ (fun _ => ?_))
      | exact ih0 _ _ _ _
      | exact LeO.none _
      | refine LeO.ite ?_ ?_
      | refine LeO.bind ?_ (fun _ => ?_)
set_option maxHeartbeats 8000000 in
set_option maxRecDepth 100000 in
theorem customsref06_Checksum.calls (k : Nat) (A0 : Option Addr) (c0 : Nat) (l0 : List Int) (r : Int) (w : World) (hr0 : Kd.C (Kd.int .u8) w A0 l0.length l0) (hc0 : l0.length ≤ c0) (h : customsref06_Checksum.f k l0 = some r) :
    Calls Try.prog 44 #[.slice A0 l0.length c0] w fun e w' => e = .returned (.int .i64 r) ∧ Drawn0 w w' := by
  have HR0 := Aside0.mk hr0
  have HC0 := Aside0.mk hc0
  clear hr0 hc0
  have H : (customsref06_Checksum.l0 k l0 1 0 0) = some r := h
  clear h
  have H' := Aside0.mk H
  clear H
  go_enter Try.func44, Try.ntmps44
  go_wp2
  go_loopg [3, 4, 5] k (fun kq v3 v4 v5 w' => ∃ (x3_1 : Int) (x4_1 : Int) (x5_1 : Int), v3 = .int .i64 x3_1 ∧ v4 = .int .i64 x4_1 ∧ v5 = .int .i64 x5_1 ∧ Aside0 (customsref06_Checksum.l0 kq l0 x3_1 x4_1 x5_1 = some r) ∧ Aside0 (kq ≤ k) ∧ Drawn0 w w')
  case atStart => exact ⟨(1), (0), (0), (by first | rfl | (simp; done) | (simp [*]; done)), (by first | rfl | (simp; done) | (simp [*]; done)), (by first | rfl | (simp; done) | (simp [*]; done)), H', ⟨Nat.le_refl _⟩, by repeat (first | exact Drawn0.refl _ | apply Drawn0.step)⟩
  case round =>
    clear H'
    obtain ⟨x3_1, x4_1, x5_1, rfl, rfl, rfl, HA, HK1, ⟨m1, rfl⟩⟩ := hrel
    cases gk with
    | zero => exact absurd HA.out (by simp [customsref06_Checksum.l0])
    | succ k1 =>
      have H := HA.out
      clear HA
      simp only [customsref06_Checksum.l0] at H
      by_cases c2 : x5_1 < (l0.length : Int)
      · rw [if_pos c2] at H
        have c2b0 : decide (x5_1 < (l0.length : Int)) = true := decide_eq_true c2
        clear c2
        have c3 : 0 ≤ x5_1 := by
          refine Classical.byContradiction fun c3 => ?_
          rw [if_neg c3] at H
          exact absurd H (by simp)
        rw [if_pos c3] at H
        have c3b0 : decide (0 ≤ x5_1) = true := decide_eq_true c3
        clear c3
        have H' := Aside0.mk H
        clear H
        have p314 : 0 ≤ (x5_1 : Int) := of_decide_eq_true (by first | (with_reducible assumption) | assumption)
        have q314 : x5_1 < (l0.length : Int) := of_decide_eq_true (by first | (with_reducible assumption) | assumption)
        obtain ⟨ad314, e314, hx314_0⟩ := Kd.at_int HR0.out x5_1 p314 q314
        cases e314
        replace p314 := eq_true p314
        replace q314 := eq_true q314
        go_wp2
        go_roundg k1
        case measure => have := HK1.out; omega
        case rel => exact ⟨(Int.tmod (wrap64 (x3_1 + (wrap64 (rd l0 x5_1)))) 65521), (Int.tmod (wrap64 (x4_1 + (Int.tmod (wrap64 (x3_1 + (wrap64 (rd l0 x5_1)))) 65521))) 65521), (wrap64 (x5_1 + 1)), (by first | rfl | (simp; done) | (simp [*]; done)), (by first | rfl | (simp; done) | (simp [*]; done)), (by first | rfl | (simp; done) | (simp [*]; done)), H', ⟨by have := HK1.out; omega⟩, by repeat (first | exact Drawn0.refl _ | apply Drawn0.step)⟩
      · rw [if_neg c2] at H
        have c2b0 : decide (x5_1 < (l0.length : Int)) = false := decide_eq_false c2
        clear c2
        obtain rfl := Option.some.inj H
        go_wp2
        go_ret
        exact ⟨by first | rfl | (simp; done) | (simp [*]; done), by repeat (first | exact Drawn0.refl _ | apply Drawn0.step)⟩

/-! ### customsref33_Encode: function 29 -/
def customsref33_Encode.j0 : Nat → Bool → Int → List Int → Option (List Int × Int)
  | 0, _, _, _ => none
  | k + 1, x14, x316000, x316001 => if x14 = true then (some (([] : List Int), 2)) else (if (x316001.length : Int) > 60000 then (some (([] : List Int), 8)) else ((some (([(wrap64 ((x316001.length : Int) / 256)) % 256, (x316001.length : Int) % 256, (wrap64 (255 - (wrap64 ((x316001.length : Int) / 256)))) % 256, 255 - ((x316001.length : Int) % 256), (x316000) % 256] : List Int) : List Int)).bind fun y316 => (if y316.length + x316001.length < 140737488355328 then ((some (y316 ++ x316001 : List Int)).bind fun y319 => ((customsref06_Checksum.f k y319).bind fun t322 => ((some (([(wrap64 (Int.tdiv t322 16777216)) % 256, (Int.tmod (wrap64 (Int.tdiv t322 65536)) 256) % 256, (Int.tmod (wrap64 (Int.tdiv t322 256)) 256) % 256, (Int.tmod t322 256) % 256] : List Int) : List Int)).bind fun y323 => (if y319.length + y323.length < 140737488355328 then (some ((y319 ++ y323), 0)) else (none))))) else (none))))
def customsref33_Encode.f (k : Nat) (a0_0 : Int) (l0_1 : List Int) : Option (List Int × Int) := if a0_0 = 1 then (customsref33_Encode.j0 k false a0_0 l0_1) else (customsref33_Encode.j0 k (a0_0 != 2) a0_0 l0_1)
theorem customsref33_Encode.mono_l : ∀ k, (∀ y0 y1 y2, LeO (customsref33_Encode.j0 k y0 y1 y2) (customsref33_Encode.j0 (k + 1) y0 y1 y2))
  | 0 => fun _ _ _ r h => by simp [customsref33_Encode.j0] at h
  | k + 1 => by
    have ih0 := customsref33_Encode.mono_l k
    · intro y0 y1 y2
      unfold customsref33_Encode.j0
      repeat' first
      | (with_reducible exact ih0 _ _ _)
      | (with_reducible exact customsref06_Checksum.mono _ _)
      | (with_reducible exact LeO.refl _)
      | (with_reducible exact LeO.none _)
      | (with_reducible refine LeO.ite ?_ ?_)
      | (with_reducible refine LeO.bind ?_ (fun _ => ?_))
      | exact ih0 _ _ _
      | exact customsref06_Checksum.mono _ _
      | exact LeO.none _
      | refine LeO.ite ?_ ?_
      | refine LeO.bind ?_ (fun _ => ?_)
theorem customsref33_Encode.mono : ∀ a0 a1 k, LeO (customsref33_Encode.f k a0 a1) (customsref33_Encode.f (k + 1) a0 a1) := by
  intro a0 a1 k
  have ih0 := customsref33_Encode.mono_l k
  unfold customsref33_Encode.f
  repeat' first
      | (with_reducible exact ih0 _ _ _)
      | (with_reducible exact customsref06_Checksum.mono _ _)
      | (with_reducible exact LeO.refl _)
      | (with_reducible exact LeO.none _)
      | (with_reducible refine LeO.ite ?_ ?_)
      | (with_reducible refine LeO.bind ?_ (fun _ => ?_))
      | exact ih0 _ _ _
      | exact customsref06_Checksum.mono _ _
      | exact LeO.none _
      | refine LeO.ite ?_ ?_
      | refine LeO.bind ?_ (fun _ => ?_)
set_option maxHeartbeats 8000000 in
set_option maxRecDepth 100000 in
theorem customsref33_Encode.calls (k : Nat) (a0_0 : Int) (A0_1 : Option Addr) (c0_1 : Nat) (l0_1 : List Int) (r1 : List Int) (r2 : Int) (w : World) (hr0_1 : Kd.C (Kd.int .u8) w A0_1 l0_1.length l0_1) (hc0_1 : l0_1.length ≤ c0_1) (h : customsref33_Encode.f k a0_0 l0_1 = some (r1, r2)) :
    Calls Try.prog 29 #[.agg #[.int .i64 a0_0, .slice A0_1 l0_1.length c0_1]] w fun e w' => ∃ v0_ : Value, e = .returned (.tuple #[v0_, .int .i64 r2]) ∧ Kd.R (Kd.int .u8) 5 w' w.heap.size (fun _ => True) v0_ r1 ∧ Below w.heap.size w w' := by
  have hu43 := Try.underlying43
  have HR0_1 := Aside0.mk hr0_1
  have HC0_1 := Aside0.mk hc0_1
  clear hr0_1 hc0_1
  have HB := Aside0.mk (Below.refl w.heap.size w)
  have H : (if a0_0 = 1 then (customsref33_Encode.j0 k false a0_0 l0_1) else (customsref33_Encode.j0 k (a0_0 != 2) a0_0 l0_1)) = some (r1, r2) := h
  clear h
  have HC2 := Aside0.mk H
  clear H
  go_enter Try.func29, Try.ntmps29
  go_upto_region 1 with (first | ((with_reducible refine gate_dst (N := 1) rfl ?_); refine box_event ?hg (N := 1) ?hd (cs := #[.int .i64 a0_0, .slice A0_1 l0_1.length c0_1]) (t := 43) ?hr ?_; (case hd => rfl); (case hg => rfl); (case hr => first | (go_simp; done) | (go_simp; rfl)); intro gb315 hg w3 hbox hb; have n0_ := Aside0.mk (below_step (by exact pB HB.out) hb); have n1_ := Aside0.mk (hbox); have n2_ := Aside0.mk ((by rw [hg]; exact (below_size (by exact pB HB.out)) : w.heap.size ≤ gb315)); have n3_ := Aside0.mk ((by rw [hg]; exact (below_size (by exact pB HB.out)) : w.heap.size ≤ gb315)); clear HB; have HB := n0_; have BK315 := n1_; have GW315 := n2_; have GE315 := n3_; clear n0_ n1_ n2_ n3_; clear hb hbox hg))
  (try simp only [Act.put, List.setIfInBounds_toArray, List.set_cons_zero, List.set_cons_succ])
  go_cut [14] (fun v14 wc => ∃ (kq : Nat) (x14_1 : Bool), v14 = .bool x14_1 ∧ Aside0 (customsref33_Encode.j0 kq x14_1 a0_0 l0_1 = some (r1, r2)) ∧ Aside0 (kq ≤ k) ∧ Aside0 (wc.heap[gb315]? = some (.cells #[.int .i64 a0_0, (.slice A0_1 l0_1.length c0_1)] 43 (0, 0))) ∧ Aside0 (Below w.heap.size w wc))
  case first =>
    have H := HC2.out
    clear HC2
    by_cases c4 : a0_0 = 1
    · rw [if_pos c4] at H
      have c4b0 : (a0_0 == 1) = true := beq_iff_eq.mpr c4
      have c4b1 : (a0_0 != 1) = false := bne_eq_false_iff_eq.mpr c4
      clear c4
      (first | rw [c4b0] | (simp only [i64_w, i32_w]; rw [c4b0]) | skip)
      have H' := Aside0.mk H
      clear H
      have hcz5_0 : w3.cell? ⟨gb315, 0, none⟩ = some (.int .i64 a0_0) := (blk_cell BK315.out 0).trans rfl
      have hcz5_1 : w3.cell? ⟨gb315, 1, none⟩ = some (.slice A0_1 l0_1.length c0_1) := (blk_cell BK315.out 1).trans rfl
      have hfz5_0 := blk_frozen BK315.out 0
      have hfz5_1 := blk_frozen BK315.out 1
      go_wp2
      go_meet
      case rel => exact ⟨_, (false), (by first | rfl | (simp; done) | (simp [*]; done)), H', ⟨by first | omega | exact Nat.le_refl _⟩, ⟨by exact pK BK315.out⟩, ⟨by exact pB HB.out⟩⟩
    · rw [if_neg c4] at H
      have c4b0 : (a0_0 == 1) = false := beq_eq_false_iff_ne.mpr c4
      have c4b1 : (a0_0 != 1) = true := bne_iff_ne.mpr c4
      (first | rw [c4b0] | (simp only [i64_w, i32_w]; rw [c4b0]) | skip)
      have H' := Aside0.mk H
      clear H
      have hcz6_0 : w3.cell? ⟨gb315, 0, none⟩ = some (.int .i64 a0_0) := (blk_cell BK315.out 0).trans rfl
      have hcz6_1 : w3.cell? ⟨gb315, 1, none⟩ = some (.slice A0_1 l0_1.length c0_1) := (blk_cell BK315.out 1).trans rfl
      have hfz6_0 := blk_frozen BK315.out 0
      have hfz6_1 := blk_frozen BK315.out 1
      go_wp2
      go_meet
      case rel => exact ⟨_, ((a0_0 != 2)), (by first | rfl | (simp; done) | (simp [*]; done)), H', ⟨by first | omega | exact Nat.le_refl _⟩, ⟨by exact pK BK315.out⟩, ⟨by exact pB HB.out⟩⟩
  case rest =>
    clear HC2
    try clear c2
    try clear p2
    try clear c4
    try clear c4b0
    try clear c4b1
    try clear hcz5_0
    try clear hcz5_1
    try clear hcz6_0
    try clear hcz6_1
    try clear hfz5_0
    try clear hfz5_1
    try clear hfz6_0
    try clear hfz6_1
    obtain ⟨kq, x14_1, rfl, HA, HJ1, BK315, HB⟩ := hcut
    cases kq with
    | zero => exact absurd HA.out (by simp [customsref33_Encode.j0])
    | succ kj1 =>
      have H := HA.out
      clear HA
      simp only [customsref33_Encode.j0] at H
      by_cases c7 : x14_1 = true
      · subst c7
        have H1 : (some (([] : List Int), 2)) = some (r1, r2) := by rw [if_pos rfl] at H; exact H
        clear H
        have H := H1
        clear H1
        simp only [Option.some.injEq, Prod.mk.injEq] at H
        obtain ⟨rfl, rfl⟩ := H
        go_wp2
        go_ret2
        exact ⟨_, by first | rfl | (simp [errW_none, errW_some] <;> rfl) | (simp [*, errW_none, errW_some] <;> rfl), by first | exact Kd.R_nil _ _ _ _ _ | exact Kd.N_nil _ _ _ _ _ | exact Kd.V_nil _ _ _ _ _ | exact Kd.Q_nil _ _ _ _ _ | exact Kd.S_nil _ _ _ _ _, by exact pB HB.out⟩
      · replace c7 := Bool.eq_false_iff.mpr c7
        subst c7
        have H1 : (if (l0_1.length : Int) > 60000 then (some (([] : List Int), 8)) else ((some (([(wrap64 ((l0_1.length : Int) / 256)) % 256, (l0_1.length : Int) % 256, (wrap64 (255 - (wrap64 ((l0_1.length : Int) / 256)))) % 256, 255 - ((l0_1.length : Int) % 256), (a0_0) % 256] : List Int) : List Int)).bind fun y316 => (if y316.length + l0_1.length < 140737488355328 then ((some (y316 ++ l0_1 : List Int)).bind fun y319 => ((customsref06_Checksum.f kj1 y319).bind fun t322 => ((some (([(wrap64 (Int.tdiv t322 16777216)) % 256, (Int.tmod (wrap64 (Int.tdiv t322 65536)) 256) % 256, (Int.tmod (wrap64 (Int.tdiv t322 256)) 256) % 256, (Int.tmod t322 256) % 256] : List Int) : List Int)).bind fun y323 => (if y319.length + y323.length < 140737488355328 then (some ((y319 ++ y323), 0)) else (none))))) else (none)))) = some (r1, r2) := by rw [if_neg (show ¬ (false = true) by decide)] at H; exact H
        clear H
        have H := H1
        clear H1
        by_cases c8 : (l0_1.length : Int) > 60000
        · rw [if_pos c8] at H
          have c8b0 : decide (60000 < (l0_1.length : Int)) = true := decide_eq_true c8
          have c8b1 : decide (60000 < l0_1.length) = true := decide_eq_true (by omega)
          clear c8
          simp only [Option.some.injEq, Prod.mk.injEq] at H
          obtain ⟨rfl, rfl⟩ := H
          have hcz9_0 : wc.cell? ⟨gb315, 0, none⟩ = some (.int .i64 a0_0) := (blk_cell BK315.out 0).trans rfl
          have hcz9_1 : wc.cell? ⟨gb315, 1, none⟩ = some (.slice A0_1 l0_1.length c0_1) := (blk_cell BK315.out 1).trans rfl
          have hfz9_0 := blk_frozen BK315.out 0
          have hfz9_1 := blk_frozen BK315.out 1
          go_wp2
          go_ret2
          exact ⟨_, by first | rfl | (simp [errW_none, errW_some] <;> rfl) | (simp [*, errW_none, errW_some] <;> rfl), by first | exact Kd.R_nil _ _ _ _ _ | exact Kd.N_nil _ _ _ _ _ | exact Kd.V_nil _ _ _ _ _ | exact Kd.Q_nil _ _ _ _ _ | exact Kd.S_nil _ _ _ _ _, by exact pB HB.out⟩
        · rw [if_neg c8] at H
          have c8b0 : decide (60000 < (l0_1.length : Int)) = false := decide_eq_false c8
          have c8b1 : decide (60000 < l0_1.length) = false := decide_eq_false (by omega)
          clear c8
          obtain ⟨y316, hy316⟩ : ∃ y_ : List Int, y_ = (([(wrap64 ((l0_1.length : Int) / 256)) % 256, (l0_1.length : Int) % 256, (wrap64 (255 - (wrap64 ((l0_1.length : Int) / 256)))) % 256, 255 - ((l0_1.length : Int) % 256), (a0_0) % 256] : List Int)) := ⟨_, rfl⟩
          replace H : (if y316.length + l0_1.length < 140737488355328 then ((some (y316 ++ l0_1 : List Int)).bind fun y319 => ((customsref06_Checksum.f kj1 y319).bind fun t322 => ((some (([(wrap64 (Int.tdiv t322 16777216)) % 256, (Int.tmod (wrap64 (Int.tdiv t322 65536)) 256) % 256, (Int.tmod (wrap64 (Int.tdiv t322 256)) 256) % 256, (Int.tmod t322 256) % 256] : List Int) : List Int)).bind fun y323 => (if y319.length + y323.length < 140737488355328 then (some ((y319 ++ y323), 0)) else (none))))) else (none)) = some (r1, r2) := by first | (rw [hy316]; with_reducible exact H) | (have H2_ := (Option.bind_some _ _).symm.trans H; rw [hy316]; with_reducible exact H2_) | (have H2_ := (Option.bind_some _ _).symm.trans H; with_reducible exact H2_) | with_reducible exact H | (rw [hy316]; exact H) | exact H
          have Ny316 := Aside0.mk hy316
          clear hy316
          have c10 : y316.length + l0_1.length < 140737488355328 := by
            refine Classical.byContradiction fun c10 => ?_
            rw [if_neg c10] at H
            exact absurd H (by simp)
          rw [if_pos c10] at H
          have LMc10 := Aside0.mk c10
          clear c10
          obtain ⟨y319, hy319⟩ : ∃ y_ : List Int, y_ = (y316 ++ l0_1) := ⟨_, rfl⟩
          replace H : ((customsref06_Checksum.f kj1 y319).bind fun t322 => ((some (([(wrap64 (Int.tdiv t322 16777216)) % 256, (Int.tmod (wrap64 (Int.tdiv t322 65536)) 256) % 256, (Int.tmod (wrap64 (Int.tdiv t322 256)) 256) % 256, (Int.tmod t322 256) % 256] : List Int) : List Int)).bind fun y323 => (if y319.length + y323.length < 140737488355328 then (some ((y319 ++ y323), 0)) else (none)))) = some (r1, r2) := by first | (rw [hy319]; with_reducible exact H) | (have H2_ := (Option.bind_some _ _).symm.trans H; rw [hy319]; with_reducible exact H2_) | (have H2_ := (Option.bind_some _ _).symm.trans H; with_reducible exact H2_) | with_reducible exact H | (rw [hy319]; exact H) | exact H
          have Ny319 := Aside0.mk hy319
          clear hy319
          replace H := Option.bind_eq_some_iff.mp H
          obtain ⟨t322, A110, H⟩ := H
          replace H : ((some (([(wrap64 (Int.tdiv t322 16777216)) % 256, (Int.tmod (wrap64 (Int.tdiv t322 65536)) 256) % 256, (Int.tmod (wrap64 (Int.tdiv t322 256)) 256) % 256, (Int.tmod t322 256) % 256] : List Int) : List Int)).bind fun y323 => (if y319.length + y323.length < 140737488355328 then (some ((y319 ++ y323), 0)) else (none))) = some (r1, r2) := H
          have A11 := Aside0.mk A110
          clear A110
          obtain ⟨y323, hy323⟩ : ∃ y_ : List Int, y_ = (([(wrap64 (Int.tdiv t322 16777216)) % 256, (Int.tmod (wrap64 (Int.tdiv t322 65536)) 256) % 256, (Int.tmod (wrap64 (Int.tdiv t322 256)) 256) % 256, (Int.tmod t322 256) % 256] : List Int)) := ⟨_, rfl⟩
          replace H : (if y319.length + y323.length < 140737488355328 then (some ((y319 ++ y323), 0)) else (none)) = some (r1, r2) := by first | (rw [hy323]; with_reducible exact H) | (have H2_ := (Option.bind_some _ _).symm.trans H; rw [hy323]; with_reducible exact H2_) | (have H2_ := (Option.bind_some _ _).symm.trans H; with_reducible exact H2_) | with_reducible exact H | (rw [hy323]; exact H) | exact H
          have Ny323 := Aside0.mk hy323
          clear hy323
          have c12 : y319.length + y323.length < 140737488355328 := by
            refine Classical.byContradiction fun c12 => ?_
            rw [if_neg c12] at H
            exact absurd H (by simp)
          rw [if_pos c12] at H
          have LMc12 := Aside0.mk c12
          clear c12
          obtain ⟨y326, hy326⟩ : ∃ y_ : List Int, y_ = (y319 ++ y323) := ⟨_, rfl⟩
          replace H : (some (y326, 0)) = some (r1, r2) := by first | (rw [hy326]; with_reducible exact H) | (have H2_ := (Option.bind_some _ _).symm.trans H; rw [hy326]; with_reducible exact H2_) | (have H2_ := (Option.bind_some _ _).symm.trans H; with_reducible exact H2_) | with_reducible exact H | (rw [hy326]; exact H) | exact H
          have Ny326 := Aside0.mk hy326
          clear hy326
          simp only [Option.some.injEq, Prod.mk.injEq] at H
          obtain ⟨rfl, rfl⟩ := H
          have hcz13_0 : wc.cell? ⟨gb315, 0, none⟩ = some (.int .i64 a0_0) := (blk_cell BK315.out 0).trans rfl
          have hcz13_1 : wc.cell? ⟨gb315, 1, none⟩ = some (.slice A0_1 l0_1.length c0_1) := (blk_cell BK315.out 1).trans rfl
          have hfz13_0 := blk_frozen BK315.out 0
          have hfz13_1 := blk_frozen BK315.out 1
          go_wp2_with (first | ((with_reducible refine gate_dst (N := 37) rfl ?_); refine Kd.R_lit (Kd.int .u8) _ 5 ?hg (N := 37) ?hd (xs := ([(wrap64 ((l0_1.length : Int) / 256)) % 256, (l0_1.length : Int) % 256, (wrap64 (255 - (wrap64 ((l0_1.length : Int) / 256)))) % 256, 255 - ((l0_1.length : Int) % 256), (a0_0) % 256] : List Int)) (inner := [.int .u8 ((wrap64 ((l0_1.length : Int) / 256)) % 256), .int .u8 ((l0_1.length : Int) % 256), .int .u8 ((wrap64 (255 - (wrap64 ((l0_1.length : Int) / 256)))) % 256), .int .u8 (255 - ((l0_1.length : Int) % 256)), .int .u8 ((a0_0) % 256)]) (ok := fun _ => True) (okp := fun _ => True) ?hr ?hp (fun _ hk => hk) trivial (Below.refl _ _) (Nat.le_refl _) (by simp) ?_; (case hd => rfl); (case hg => rfl); (case hr => first | (go_simp; done) | (go_simp; rfl)); (case hp => exact (Reps.one (show Kd.M (Kd.int .u8) _ _ _ ((wrap64 ((l0_1.length : Int) / 256)) % 256) [.int .u8 ((wrap64 ((l0_1.length : Int) / 256)) % 256)] from rfl) (Reps.one (show Kd.M (Kd.int .u8) _ _ _ ((l0_1.length : Int) % 256) [.int .u8 ((l0_1.length : Int) % 256)] from rfl) (Reps.one (show Kd.M (Kd.int .u8) _ _ _ ((wrap64 (255 - (wrap64 ((l0_1.length : Int) / 256)))) % 256) [.int .u8 ((wrap64 (255 - (wrap64 ((l0_1.length : Int) / 256)))) % 256)] from rfl) (Reps.one (show Kd.M (Kd.int .u8) _ _ _ (255 - ((l0_1.length : Int) % 256)) [.int .u8 (255 - ((l0_1.length : Int) % 256))] from rfl) (Reps.one (show Kd.M (Kd.int .u8) _ _ _ ((a0_0) % 256) [.int .u8 ((a0_0) % 256)] from rfl) (Reps.none _ _))))))); intro v317 w14 ho15 hb hg_ hnew_; clear hg_ hnew_; (first | rw [← Ny316.out] at ho15 | (simp only [Int.reduceToNat] at ho15; rw [← Ny316.out] at ho15)); have n0_ := Aside0.mk (Kd.R_lower ho15 (below_size (by exact pB HB.out))); have n1_ := Aside0.mk (blk_below (g := gb315) (o := .cells #[.int .i64 a0_0, .slice A0_1 l0_1.length c0_1] 43 (0, 0)) (by exact pK BK315.out) hb); have n2_ := Aside0.mk (below_step (by exact pB HB.out) hb); clear BK315; clear HB; have HO318 := n0_; have BK315 := n1_; have HB := n2_; clear n0_ n1_ n2_; clear hb ho15; have hcz16_0 : w14.cell? ⟨gb315, 0, none⟩ = some (.int .i64 a0_0) := (blk_cell BK315.out 0).trans rfl; have hcz16_1 : w14.cell? ⟨gb315, 1, none⟩ = some (.slice A0_1 l0_1.length c0_1) := (blk_cell BK315.out 1).trans rfl; have hfz16_0 := blk_frozen BK315.out 0; have hfz16_1 := blk_frozen BK315.out 1) | ((with_reducible refine gate_builtin (b := .append) (xs := #[.tmp 37, .tmp 39]) rfl ?_); at_builtin; refine Kd.R_append_rows (Kd.int .u8) (w0 := w) w.heap.size rfl (.tmp 37) (.tmp 39) 22 5 (.int .u8 0) 1 rfl Try.underlying22 info5 rfl (by decide) (by omega) v317 y316 l0_1 _ _ _ (fun _ => True) (fun _ => False) rfl rfl ?aO ?aR (fun _ _ h => h) (fun _ h => h.elim) ?aF ?aB ?aS ?aL ?_; (case aR => exact pC (Kd.C_below HR0_1.out HB.out)); (case aB => exact (by exact pB HB.out)); (case aF => exact (fun _ _ => trivial)); (case aO => exact (by exact pR HO318.out)); (case aS => exact (below_size (by exact pB HB.out))); (case aL => have := LMc10.out; omega); intro v320 w17 ho hb hg hat; rw [← Ny319.out] at ho; have n0_ := Aside0.mk (hb); have n1_ := Aside0.mk (ho); clear HB; clear HO318; have HB := n0_; have HO321 := n1_; clear n0_ n1_; clear ho hb hg hat; obtain ⟨Ao18, co18, eo18⟩ := Kd.R_slice HO321.out; subst eo18) | ((with_reducible refine gate_callee (f := 44) rfl ?_); refine goesL_ (some 42) rfl rfl Try.func44 (by kernel_rfl) rfl #[.slice Ao18 y319.length co18] rfl (by (try simp only [List.map_toArray, List.map_cons, List.map_nil]); first | done | rfl | (simp only [List.length_drop, List.length_take]; rfl)) ?_; (with_reducible refine (customsref06_Checksum.calls kj1 _ _ y319 t322 _ ?side1 ?side2 A11.out).mono ?_); (case side1 => exact pC (Kd.R_reads' HO321.out).2.2); (case side2 => exact (Kd.R_reads' HO321.out).2.1); rintro e w' ⟨rfl, ⟨nd, rfl⟩⟩; refine ⟨_, rfl, ?_⟩) | ((with_reducible refine gate_dst (N := 58) rfl ?_); refine Kd.R_lit (Kd.int .u8) _ 5 ?hg (N := 58) ?hd (xs := ([(wrap64 (Int.tdiv t322 16777216)) % 256, (Int.tmod (wrap64 (Int.tdiv t322 65536)) 256) % 256, (Int.tmod (wrap64 (Int.tdiv t322 256)) 256) % 256, (Int.tmod t322 256) % 256] : List Int)) (inner := [.int .u8 ((wrap64 (Int.tdiv t322 16777216)) % 256), .int .u8 ((Int.tmod (wrap64 (Int.tdiv t322 65536)) 256) % 256), .int .u8 ((Int.tmod (wrap64 (Int.tdiv t322 256)) 256) % 256), .int .u8 ((Int.tmod t322 256) % 256)]) (ok := fun _ => True) (okp := fun _ => True) ?hr ?hp (fun _ hk => hk) trivial (Below.refl _ _) (Nat.le_refl _) (by simp) ?_; (case hd => rfl); (case hg => rfl); (case hr => first | (go_simp; done) | (go_simp; rfl)); (case hp => exact (Reps.one (show Kd.M (Kd.int .u8) _ _ _ ((wrap64 (Int.tdiv t322 16777216)) % 256) [.int .u8 ((wrap64 (Int.tdiv t322 16777216)) % 256)] from rfl) (Reps.one (show Kd.M (Kd.int .u8) _ _ _ ((Int.tmod (wrap64 (Int.tdiv t322 65536)) 256) % 256) [.int .u8 ((Int.tmod (wrap64 (Int.tdiv t322 65536)) 256) % 256)] from rfl) (Reps.one (show Kd.M (Kd.int .u8) _ _ _ ((Int.tmod (wrap64 (Int.tdiv t322 256)) 256) % 256) [.int .u8 ((Int.tmod (wrap64 (Int.tdiv t322 256)) 256) % 256)] from rfl) (Reps.one (show Kd.M (Kd.int .u8) _ _ _ ((Int.tmod t322 256) % 256) [.int .u8 ((Int.tmod t322 256) % 256)] from rfl) (Reps.none _ _)))))); intro v324 w19 ho20 hb hg_ hnew_; clear hg_ hnew_; (first | rw [← Ny323.out] at ho20 | (simp only [Int.reduceToNat] at ho20; rw [← Ny323.out] at ho20)); have n0_ := Aside0.mk (Kd.R_elder' (by exact pR HO321.out) (Kd.R_base ho20) hb); have n1_ := Aside0.mk (Kd.R_lower (Kd.R_new' ho20 (Kd.R_lt (by exact pR HO321.out))) (below_size (by exact pB HB.out))); have n2_ := Aside0.mk (below_step (by exact pB HB.out) hb); clear HO321; clear HB; have HO321 := n0_; have HO325 := n1_; have HB := n2_; clear n0_ n1_ n2_; clear hb ho20; obtain ⟨Ao22, co22, eo22⟩ := Kd.R_slice HO325.out; subst eo22) | ((with_reducible refine gate_builtin (b := .append) (xs := #[.tmp 43, .tmp 58]) rfl ?_); at_builtin; refine Kd.R_append_rows (Kd.int .u8) (w0 := w) w.heap.size rfl (.tmp 43) (.tmp 58) 22 5 (.int .u8 0) 1 rfl Try.underlying22 info5 rfl (by decide) (by omega) (.slice Ao18 y319.length co18) y319 y323 _ _ _ (fun k_ => some k_ ≠ (.slice Ao22 y323.length co22 : Value).ownBlock) (fun _ => False) rfl rfl ?aO ?aR (fun _ _ h => h) (fun _ h => h.elim) ?aF ?aB ?aS ?aL ?_; (case aR => exact pC (Kd.R_reads' HO325.out).2.2); (case aB => exact (by exact pB HB.out)); (case aF => exact (fun k_ hk => Kd.fresh' (Kd.R_lt (by exact pR HO325.out)) k_ hk)); (case aO => exact (by exact pR (Kd.R_mono HO321.out (fun _ hk => hk.2)))); (case aS => exact (below_size (by exact pB HB.out))); (case aL => have := LMc12.out; omega); intro v327 w21 ho hb hg hat; rw [← Ny326.out] at ho; have n0_ := Aside0.mk (Kd.R_after (ok := (fun _ => True)) (by exact pR HO325.out) hg hat); have n1_ := Aside0.mk (hb); have n2_ := Aside0.mk (ho); clear HO325; clear HB; clear HO321; have HO325 := n0_; have HB := n1_; have HO328 := n2_; clear n0_ n1_ n2_; clear ho hb hg hat))
          go_ret2
          exact ⟨_, by first | rfl | (simp [errW_none, errW_some] <;> rfl) | (simp [*, errW_none, errW_some] <;> rfl), by exact pR (Kd.R_mono HO328.out (fun _ hk => trivial)), by exact pB HB.out⟩

/-! ### customsref33_Put: function 34 -/
def customsref33_Put.f (k : Nat) (l0_0 : List Int) (l0_1 : List Int) (a1_0 : Int) (l1_1 : List Int) : Option (List Int × List Int × Int) := (customsref33_Encode.f k a1_0 l1_1).bind fun bt332 => (if bt332.2 = 0 then ((customsref33_Write.f l0_0 l0_1 bt332.1).bind fun bt336 => (some (bt336.1, bt336.2.1, bt336.2.2))) else (some (([] : List Int), ([] : List Int), bt332.2)))
theorem customsref33_Put.mono : ∀ a0 a1 a2 a3 k, LeO (customsref33_Put.f k a0 a1 a2 a3) (customsref33_Put.f (k + 1) a0 a1 a2 a3) := by
  intro a0 a1 a2 a3 k
  unfold customsref33_Put.f
  repeat' first
      | (with_reducible exact customsref33_Encode.mono _ _ _)
      | (with_reducible exact LeO.refl _)
      | (with_reducible exact LeO.none _)
      | (with_reducible refine LeO.ite ?_ ?_)
      | (with_reducible refine LeO.bind ?_ (fun _ => ?_))
      | exact customsref33_Encode.mono _ _ _
      | exact LeO.none _
      | refine LeO.ite ?_ ?_
      | refine LeO.bind ?_ (fun _ => ?_)
set_option maxHeartbeats 8000000 in
set_option maxRecDepth 100000 in
theorem customsref33_Put.calls (k : Nat) (P0_0_ : Nat → Prop) (A0_0 : Option Addr) (c0_0 : Nat) (l0_0 : List Int) (A0_1 : Option Addr) (c0_1 : Nat) (l0_1 : List Int) (a1_0 : Int) (A1_1 : Option Addr) (c1_1 : Nat) (l1_1 : List Int) (r1 : List Int) (r2 : List Int) (r3 : Int) (w : World) (hs0_0 : Kd.V (Kd.int .u8) 5 w w.heap.size (fun k_ => P0_0_ k_) (.slice A0_0 l0_0.length c0_0) l0_0) (hr0_1 : Kd.C (Kd.int .u8) w A0_1 l0_1.length l0_1) (hc0_1 : l0_1.length ≤ c0_1) (hr1_1 : Kd.C (Kd.int .u8) w A1_1 l1_1.length l1_1) (hc1_1 : l1_1.length ≤ c1_1) (h : customsref33_Put.f k l0_0 l0_1 a1_0 l1_1 = some (r1, r2, r3)) :
    Calls Try.prog 34 #[.agg #[.slice A0_0 l0_0.length c0_0, .slice A0_1 l0_1.length c0_1], .agg #[.int .i64 a1_0, .slice A1_1 l1_1.length c1_1]] w fun e w' => ∃ v0_ v1_ : Value, e = .returned (.tuple #[.agg #[v0_, v1_], .int .i64 r3]) ∧ Kd.V (Kd.int .u8) 5 w' w.heap.size (fun k_ => (P0_0_ k_ ∨ w.heap.size ≤ k_) ∧ some k_ ≠ (v1_ : Value).ownBlock) v0_ r1 ∧ Kd.R (Kd.int .u8) 5 w' w.heap.size (fun k_ => (w.heap.size ≤ k_)) v1_ r2 ∧ Below w.heap.size w w' := by
  have hu24 := Try.underlying24
  have hu43 := Try.underlying43
  have HO0_0 := Aside0.mk (show Kd.V (Kd.int .u8) 5 w w.heap.size (fun k_ => (P0_0_ k_ ∨ w.heap.size ≤ k_)) (.slice A0_0 l0_0.length c0_0) l0_0 from Kd.V_mono hs0_0 (fun k_ hk => .inl hk))
  have HR0_1 := Aside0.mk hr0_1
  have HC0_1 := Aside0.mk hc0_1
  clear hr0_1 hc0_1
  have HR1_1 := Aside0.mk hr1_1
  have HC1_1 := Aside0.mk hc1_1
  clear hr1_1 hc1_1
  have HB := Aside0.mk (Below.refl w.heap.size w)
  have H : ((customsref33_Encode.f k a1_0 l1_1).bind fun bt332 => (if bt332.2 = 0 then ((customsref33_Write.f l0_0 l0_1 bt332.1).bind fun bt336 => (some (bt336.1, bt336.2.1, bt336.2.2))) else (some (([] : List Int), ([] : List Int), bt332.2)))) = some (r1, r2, r3) := h
  clear h
  replace H := Option.bind_eq_some_iff.mp H
  obtain ⟨⟨t332, t335⟩, A30, H⟩ := H
  replace H : (if t335 = 0 then ((customsref33_Write.f l0_0 l0_1 t332).bind fun bt336 => (some (bt336.1, bt336.2.1, bt336.2.2))) else (some (([] : List Int), ([] : List Int), t335))) = some (r1, r2, r3) := H
  have A3 := Aside0.mk A30
  clear A30
  by_cases c4 : t335 = 0
  · rw [if_pos c4] at H
    have c4b0 : (t335 == 0) = true := beq_iff_eq.mpr c4
    have c4b1 : (t335 != 0) = false := bne_eq_false_iff_eq.mpr c4
    clear c4
    replace H := Option.bind_eq_some_iff.mp H
    obtain ⟨⟨t336, t339, t342⟩, A50, H⟩ := H
    replace H : (some (t336, t339, t342)) = some (r1, r2, r3) := H
    have A5 := Aside0.mk A50
    clear A50
    simp only [Option.some.injEq, Prod.mk.injEq] at H
    obtain ⟨rfl, rfl, rfl⟩ := H
    go_enter Try.func34, Try.ntmps34
    go_wp2_with (first | ((with_reducible refine gate_dst (N := 2) rfl ?_); refine box_event ?hg (N := 2) ?hd (cs := #[.slice A0_0 l0_0.length c0_0, .slice A0_1 l0_1.length c0_1]) (t := 24) ?hr ?_; (case hd => rfl); (case hg => rfl); (case hr => first | (go_simp; done) | (go_simp; rfl)); intro gb329 hg w6 hbox hb; have n0_ := Aside0.mk (Kd.V_below (Kd.V_elderB (by exact pV HO0_0.out) gb329 (Nat.le_of_eq hg.symm)) hb); have n1_ := Aside0.mk (below_step (by exact pB HB.out) hb); have n2_ := Aside0.mk (hbox); have n3_ := Aside0.mk ((by rw [hg]; exact (below_size (by exact pB HB.out)) : w.heap.size ≤ gb329)); have n4_ := Aside0.mk ((by rw [hg]; exact (below_size (by exact pB HB.out)) : w.heap.size ≤ gb329)); clear HO0_0; clear HB; have HO0_0 := n0_; have HB := n1_; have BK329 := n2_; have GW329 := n3_; have GE329 := n4_; clear n0_ n1_ n2_ n3_ n4_; clear hb hbox hg) | ((with_reducible refine gate_dst (N := 3) rfl ?_); refine box_event ?hg (N := 3) ?hd (cs := #[.int .i64 a1_0, .slice A1_1 l1_1.length c1_1]) (t := 43) ?hr ?_; (case hd => rfl); (case hg => rfl); (case hr => first | (go_simp; done) | (go_simp; rfl)); intro gb330 hg w7 hbox hb; have n0_ := Aside0.mk (Kd.V_below (Kd.V_elderB (by exact pV HO0_0.out) gb330 (Nat.le_of_eq hg.symm)) hb); have n1_ := Aside0.mk (blk_below (g := gb329) (o := .cells #[.slice A0_0 l0_0.length c0_0, .slice A0_1 l0_1.length c0_1] 24 (0, 0)) (by exact pK BK329.out) hb); have n2_ := Aside0.mk (below_step (by exact pB HB.out) hb); have n3_ := Aside0.mk (hbox); have n4_ := Aside0.mk ((by rw [hg]; exact (below_size (by exact pB HB.out)) : w.heap.size ≤ gb330)); have n5_ := Aside0.mk ((by rw [hg]; exact (below_size (by exact pB HB.out)) : w.heap.size ≤ gb330)); have n6_ := Aside0.mk ((by rw [hg]; exact Nat.ne_of_lt (blk_lt (g := gb329) (o := .cells #[.slice A0_0 l0_0.length c0_0, .slice A0_1 l0_1.length c0_1] 24 (0, 0)) (by exact pK BK329.out)) : gb329 ≠ gb330)); have n7_ := Aside0.mk ((by rw [hg]; exact Nat.ne_of_gt (blk_lt (g := gb329) (o := .cells #[.slice A0_0 l0_0.length c0_0, .slice A0_1 l0_1.length c0_1] 24 (0, 0)) (by exact pK BK329.out)) : gb330 ≠ gb329)); clear HO0_0; clear BK329; clear HB; have HO0_0 := n0_; have BK329 := n1_; have HB := n2_; have BK330 := n3_; have GW330 := n4_; have GE330 := n5_; have NB329_330 := n6_; have NB330_329 := n7_; clear n0_ n1_ n2_ n3_ n4_ n5_ n6_ n7_; clear hb hbox hg) | ((with_reducible refine gate_dst (N := 4) rfl ?_); refine box_event ?hg (N := 4) ?hd (cs := #[.slice none 0 0, .slice none 0 0]) (t := 24) ?hr ?_; (case hd => rfl); (case hg => rfl); (case hr => first | (go_simp; done) | (go_simp; rfl)); intro gb331 hg w8 hbox hb; have n0_ := Aside0.mk (Kd.V_below (Kd.V_elderB (by exact pV HO0_0.out) gb331 (Nat.le_of_eq hg.symm)) hb); have n1_ := Aside0.mk (blk_below (g := gb329) (o := .cells #[.slice A0_0 l0_0.length c0_0, .slice A0_1 l0_1.length c0_1] 24 (0, 0)) (by exact pK BK329.out) hb); have n2_ := Aside0.mk (blk_below (g := gb330) (o := .cells #[.int .i64 a1_0, .slice A1_1 l1_1.length c1_1] 43 (0, 0)) (by exact pK BK330.out) hb); have n3_ := Aside0.mk (below_step (by exact pB HB.out) hb); have n4_ := Aside0.mk (hbox); have n5_ := Aside0.mk ((by rw [hg]; exact (below_size (by exact pB HB.out)) : w.heap.size ≤ gb331)); have n6_ := Aside0.mk ((by rw [hg]; exact (below_size (by exact pB HB.out)) : w.heap.size ≤ gb331)); have n7_ := Aside0.mk ((by rw [hg]; exact Nat.ne_of_lt (blk_lt (g := gb329) (o := .cells #[.slice A0_0 l0_0.length c0_0, .slice A0_1 l0_1.length c0_1] 24 (0, 0)) (by exact pK BK329.out)) : gb329 ≠ gb331)); have n8_ := Aside0.mk ((by rw [hg]; exact Nat.ne_of_gt (blk_lt (g := gb329) (o := .cells #[.slice A0_0 l0_0.length c0_0, .slice A0_1 l0_1.length c0_1] 24 (0, 0)) (by exact pK BK329.out)) : gb331 ≠ gb329)); have n9_ := Aside0.mk ((by rw [hg]; exact Nat.ne_of_lt (blk_lt (g := gb330) (o := .cells #[.int .i64 a1_0, .slice A1_1 l1_1.length c1_1] 43 (0, 0)) (by exact pK BK330.out)) : gb330 ≠ gb331)); have n10_ := Aside0.mk ((by rw [hg]; exact Nat.ne_of_gt (blk_lt (g := gb330) (o := .cells #[.int .i64 a1_0, .slice A1_1 l1_1.length c1_1] 43 (0, 0)) (by exact pK BK330.out)) : gb331 ≠ gb330)); clear HO0_0; clear BK329; clear BK330; clear HB; have HO0_0 := n0_; have BK329 := n1_; have BK330 := n2_; have HB := n3_; have BK331 := n4_; have GW331 := n5_; have GE331 := n6_; have NB329_331 := n7_; have NB331_329 := n8_; have NB330_331 := n9_; have NB331_330 := n10_; clear n0_ n1_ n2_ n3_ n4_ n5_ n6_ n7_ n8_ n9_ n10_; clear hb hbox hg; have hnb9 := NB330_329.out; have hnc9 := NB329_330.out; have hnb10 := NB330_331.out; have hnc10 := NB331_330.out; have hcz11_0 : w8.cell? ⟨gb330, 0, none⟩ = some (.int .i64 a1_0) := (blk_cell BK330.out 0).trans rfl; have hcz11_1 : w8.cell? ⟨gb330, 1, none⟩ = some (.slice A1_1 l1_1.length c1_1) := (blk_cell BK330.out 1).trans rfl; have hfz11_0 := blk_frozen BK330.out 0; have hfz11_1 := blk_frozen BK330.out 1) | ((with_reducible refine gate_callee (f := 29) rfl ?_); refine goesL_ (some 10) rfl rfl Try.func29 (by kernel_rfl) rfl #[.agg #[.int .i64 a1_0, .slice A1_1 l1_1.length c1_1]] rfl (by (try simp only [List.map_toArray, List.map_cons, List.map_nil]); first | done | rfl | (simp only [List.length_drop, List.length_take]; rfl)) ?_; (with_reducible refine (customsref33_Encode.calls k a1_0 _ _ l1_1 t332 t335 _ ?side1 ?side2 A3.out).mono ?_); (case side1 => exact pC (Kd.C_below HR1_1.out HB.out)); (case side2 => exact HC1_1.out); rintro e w12 ⟨v333, rfl, ho0, hb⟩; refine ⟨_, rfl, ?_⟩; have n0_ := Aside0.mk (Kd.V_elder' (by exact pV HO0_0.out) (Kd.R_base ho0) hb); have n1_ := Aside0.mk (Kd.R_lower (Kd.R_newM (M := fun k_ => (w.heap.size ≤ k_)) ho0 (below_size (by exact pB HB.out)) (fun k_ h_ => h_)) (below_size (by exact pB HB.out))); have n2_ := Aside0.mk (blk_below (g := gb329) (o := .cells #[.slice A0_0 l0_0.length c0_0, .slice A0_1 l0_1.length c0_1] 24 (0, 0)) (by exact pK BK329.out) hb); have n3_ := Aside0.mk (blk_below (g := gb331) (o := .cells #[.slice none 0 0, .slice none 0 0] 24 (0, 0)) (by exact pK BK331.out) hb); have n4_ := Aside0.mk (below_step (by exact pB HB.out) hb); clear HO0_0; clear BK329; clear BK331; clear HB; have HO0_0 := n0_; have HO334 := n1_; have BK329 := n2_; have BK331 := n3_; have HB := n4_; clear n0_ n1_ n2_ n3_ n4_; (try clear hb); (try clear hb2); (try clear hk); (try clear hi); (try clear ho0); have hnb13 := NB329_331.out; have hnc13 := NB331_329.out; have hcz14_0 : w12.cell? ⟨gb329, 0, none⟩ = some (.slice A0_0 l0_0.length c0_0) := (blk_cell BK329.out 0).trans rfl; have hcz14_1 : w12.cell? ⟨gb329, 1, none⟩ = some (.slice A0_1 l0_1.length c0_1) := (blk_cell BK329.out 1).trans rfl; have hfz14_0 := blk_frozen BK329.out 0; have hfz14_1 := blk_frozen BK329.out 1; obtain ⟨Ao15, co15, eo15⟩ := Kd.R_slice HO334.out; subst eo15) | ((with_reducible refine gate_callee (f := 13) rfl ?_); refine goesL_ (some 19) rfl rfl Try.func13 (by kernel_rfl) rfl #[.agg #[.slice A0_0 l0_0.length c0_0, .slice A0_1 l0_1.length c0_1], .slice Ao15 t332.length co15] rfl (by (try simp only [List.map_toArray, List.map_cons, List.map_nil]); first | done | rfl | (simp only [List.length_drop, List.length_take]; rfl)) ?_; (with_reducible refine (customsref33_Write.calls (fun k_ => (((((P0_0_ k_ ∨ w.heap.size ≤ k_) ∧ k_ ≠ gb329) ∧ k_ ≠ gb330) ∧ k_ ≠ gb331) ∧ some k_ ≠ (.slice Ao15 t332.length co15 : Value).ownBlock)) _ _ l0_0 _ _ l0_1 _ _ t332 t336 t339 t342 _ ?side1 ?side2 ?side3 ?side4 ?side5 A5.out).mono ?_); (case side1 => exact HO0_0.out); (case side2 => exact pC (Kd.C_below HR0_1.out HB.out)); (case side3 => exact HC0_1.out); (case side4 => exact pC (Kd.R_reads' HO334.out).2.2); (case side5 => exact (Kd.R_reads' HO334.out).2.1); rintro e w16 ⟨v337, v340, rfl, ho0, ho1, hb⟩; refine ⟨_, rfl, ?_⟩; have n0_ := Aside0.mk (Kd.V_elder' (by exact pV HO0_0.out) (Kd.R_base ho1) hb); have n1_ := Aside0.mk (Kd.R_elder' (by exact pR HO334.out) (Kd.R_base ho1) hb); have n2_ := Aside0.mk (Kd.V_lower (Kd.V_mono (ok' := fun k_ => (P0_0_ k_ ∨ w.heap.size ≤ k_) ∧ some k_ ≠ (v340 : Value).ownBlock ∧ some k_ ≠ (.slice Ao15 t332.length co15 : Value).ownBlock ∧ k_ ≠ gb331) ho0 (fun k_ hk_ => ⟨Or.elim hk_.1 (fun hs_ => hs_.1.1.1.1) (fun hn_ => (.inr (Nat.le_trans (below_size (by exact pB HB.out)) hn_))), hk_.2, Or.elim hk_.1 (fun hs_ => hs_.2) (fun hn_ => (Kd.fresh' (Kd.R_lt (by exact pR HO334.out)) k_ hn_)), Or.elim hk_.1 (fun hs_ => hs_.1.2) (fun hn_ => (Kd.freshB (g := gb331) (o := .cells #[.slice none 0 0, .slice none 0 0] 24 (0, 0)) (by exact pK BK331.out) k_ hn_))⟩)) (below_size (by exact pB HB.out))); have n3_ := Aside0.mk (Kd.R_lower (Kd.R_new' (Kd.R_newM (M := fun k_ => (w.heap.size ≤ k_)) (Kd.R_mono (ok' := fun k_ => True) ho1 (fun _ hk_ => trivial)) (below_size (by exact pB HB.out)) (fun k_ h_ => h_)) (Kd.R_lt (by exact pR HO334.out))) (below_size (by exact pB HB.out))); have n4_ := Aside0.mk (blk_below (g := gb331) (o := .cells #[.slice none 0 0, .slice none 0 0] 24 (0, 0)) (by exact pK BK331.out) hb); have n5_ := Aside0.mk (below_step (by exact pB HB.out) hb); clear HO0_0; clear HO334; clear BK331; clear HB; have HO0_0 := n0_; have HO334 := n1_; have HO338 := n2_; have HO341 := n3_; have BK331 := n4_; have HB := n5_; clear n0_ n1_ n2_ n3_ n4_ n5_; (try clear hb); (try clear hb2); (try clear hk); (try clear hi); (try clear ho0); (try clear ho1); obtain ⟨Ao17, co17, eo17⟩ := Kd.V_slice HO338.out; subst eo17; have hcz18_0 : w16.cell? ⟨gb331, 0, none⟩ = some (.slice none 0 0) := (blk_cell BK331.out 0).trans rfl; have hcz18_1 : w16.cell? ⟨gb331, 1, none⟩ = some (.slice none 0 0) := (blk_cell BK331.out 1).trans rfl; have hfz18_0 := blk_frozen BK331.out 0; have hfz18_1 := blk_frozen BK331.out 1; obtain ⟨Ao19, co19, eo19⟩ := Kd.R_slice HO341.out; subst eo19))
    refine bodyPost_ret (results_ct rfl _ _ gb331 24 #[.slice Ao17 t336.length co17, .slice Ao19 t339.length co19] (0, 0) _ rfl (by (with_reducible repeat (first | refine blk_drewN ?_ _ | refine blk_drew ?_ | refine blk_alloc ?_ _)); refine blk_put (cs := #[.slice Ao17 t336.length co17, .slice none 0 0]) ?_ 1 _ rfl; (with_reducible repeat (first | refine blk_drewN ?_ _ | refine blk_drew ?_ | refine blk_alloc ?_ _)); refine blk_put (cs := #[.slice none 0 0, .slice none 0 0]) ?_ 0 _ rfl; (with_reducible repeat (first | refine blk_drewN ?_ _ | refine blk_drew ?_ | refine blk_alloc ?_ _)); exact BK331.out) Try.underlying24 rfl (by kernel_rfl)) rfl ?_
    exact ⟨_, _, by first | rfl | (simp [errW_none, errW_some] <;> rfl) | (simp [*, errW_none, errW_some] <;> rfl), by (with_reducible repeat (first | apply Kd.V_alloc | apply Kd.V_drewN | apply Kd.V_drew)); exact Kd.V_mono (Kd.V_far (p := ⟨gb331, 1, none⟩) (Kd.V_far (p := ⟨gb331, 0, none⟩) (Kd.V_mono HO338.out (fun k_ hk => (⟨hk, hk.2.2.2⟩ : _ ∧ k_ ≠ gb331))) (fun _ hk => hk.2) (.slice Ao17 t336.length co17)) (fun _ hk => hk.2) (.slice Ao19 t339.length co19)) (fun _ hk => ⟨hk.1.1, hk.1.2.1⟩), by (with_reducible repeat (first | apply Kd.R_alloc | apply Kd.R_drewN | apply Kd.R_drew)); exact Kd.R_mono (Kd.R_far (p := ⟨gb331, 1, none⟩) (Kd.R_far (p := ⟨gb331, 0, none⟩) (Kd.R_types HO341.out BK331.out (by decide)) (fun _ hk => hk.2) (.slice Ao17 t336.length co17)) (fun _ hk => hk.2) (.slice Ao19 t339.length co19)) (fun _ hk => hk.1.1.1), by repeat (first | (with_reducible first | exact HB.out | apply below_alloc | apply pw_below_drewN | apply below_drew1 | refine below_set ?_ GE331.out) | exact HB.out)⟩
  · rw [if_neg c4] at H
    have c4b0 : (t335 == 0) = false := beq_eq_false_iff_ne.mpr c4
    have c4b1 : (t335 != 0) = true := bne_iff_ne.mpr c4
    simp only [Option.some.injEq, Prod.mk.injEq] at H
    obtain ⟨rfl, rfl, rfl⟩ := H
    go_enter Try.func34, Try.ntmps34
    go_wp2_with (first | ((with_reducible refine gate_dst (N := 2) rfl ?_); refine box_event ?hg (N := 2) ?hd (cs := #[.slice A0_0 l0_0.length c0_0, .slice A0_1 l0_1.length c0_1]) (t := 24) ?hr ?_; (case hd => rfl); (case hg => rfl); (case hr => first | (go_simp; done) | (go_simp; rfl)); intro gb329 hg w20 hbox hb; have n0_ := Aside0.mk (Kd.V_below (Kd.V_elderB (by exact pV HO0_0.out) gb329 (Nat.le_of_eq hg.symm)) hb); have n1_ := Aside0.mk (below_step (by exact pB HB.out) hb); have n2_ := Aside0.mk (hbox); have n3_ := Aside0.mk ((by rw [hg]; exact (below_size (by exact pB HB.out)) : w.heap.size ≤ gb329)); have n4_ := Aside0.mk ((by rw [hg]; exact (below_size (by exact pB HB.out)) : w.heap.size ≤ gb329)); clear HO0_0; clear HB; have HO0_0 := n0_; have HB := n1_; have BK329 := n2_; have GW329 := n3_; have GE329 := n4_; clear n0_ n1_ n2_ n3_ n4_; clear hb hbox hg) | ((with_reducible refine gate_dst (N := 3) rfl ?_); refine box_event ?hg (N := 3) ?hd (cs := #[.int .i64 a1_0, .slice A1_1 l1_1.length c1_1]) (t := 43) ?hr ?_; (case hd => rfl); (case hg => rfl); (case hr => first | (go_simp; done) | (go_simp; rfl)); intro gb330 hg w21 hbox hb; have n0_ := Aside0.mk (below_step (by exact pB HB.out) hb); have n1_ := Aside0.mk (hbox); have n2_ := Aside0.mk ((by rw [hg]; exact (below_size (by exact pB HB.out)) : w.heap.size ≤ gb330)); have n3_ := Aside0.mk ((by rw [hg]; exact (below_size (by exact pB HB.out)) : w.heap.size ≤ gb330)); clear HB; have HB := n0_; have BK330 := n1_; have GW330 := n2_; have GE330 := n3_; clear n0_ n1_ n2_ n3_; clear hb hbox hg) | ((with_reducible refine gate_dst (N := 4) rfl ?_); refine box_event ?hg (N := 4) ?hd (cs := #[.slice none 0 0, .slice none 0 0]) (t := 24) ?hr ?_; (case hd => rfl); (case hg => rfl); (case hr => first | (go_simp; done) | (go_simp; rfl)); intro gb331 hg w22 hbox hb; have n0_ := Aside0.mk (blk_below (g := gb330) (o := .cells #[.int .i64 a1_0, .slice A1_1 l1_1.length c1_1] 43 (0, 0)) (by exact pK BK330.out) hb); have n1_ := Aside0.mk (below_step (by exact pB HB.out) hb); have n2_ := Aside0.mk (hbox); have n3_ := Aside0.mk ((by rw [hg]; exact (below_size (by exact pB HB.out)) : w.heap.size ≤ gb331)); have n4_ := Aside0.mk ((by rw [hg]; exact (below_size (by exact pB HB.out)) : w.heap.size ≤ gb331)); have n5_ := Aside0.mk ((by rw [hg]; exact Nat.ne_of_lt (blk_lt (g := gb330) (o := .cells #[.int .i64 a1_0, .slice A1_1 l1_1.length c1_1] 43 (0, 0)) (by exact pK BK330.out)) : gb330 ≠ gb331)); have n6_ := Aside0.mk ((by rw [hg]; exact Nat.ne_of_gt (blk_lt (g := gb330) (o := .cells #[.int .i64 a1_0, .slice A1_1 l1_1.length c1_1] 43 (0, 0)) (by exact pK BK330.out)) : gb331 ≠ gb330)); clear BK330; clear HB; have BK330 := n0_; have HB := n1_; have BK331 := n2_; have GW331 := n3_; have GE331 := n4_; have NB330_331 := n5_; have NB331_330 := n6_; clear n0_ n1_ n2_ n3_ n4_ n5_ n6_; clear hb hbox hg; have hnb23 := NB330_331.out; have hnc23 := NB331_330.out; have hcz24_0 : w22.cell? ⟨gb330, 0, none⟩ = some (.int .i64 a1_0) := (blk_cell BK330.out 0).trans rfl; have hcz24_1 : w22.cell? ⟨gb330, 1, none⟩ = some (.slice A1_1 l1_1.length c1_1) := (blk_cell BK330.out 1).trans rfl; have hfz24_0 := blk_frozen BK330.out 0; have hfz24_1 := blk_frozen BK330.out 1) | ((with_reducible refine gate_callee (f := 29) rfl ?_); refine goesL_ (some 10) rfl rfl Try.func29 (by kernel_rfl) rfl #[.agg #[.int .i64 a1_0, .slice A1_1 l1_1.length c1_1]] rfl (by (try simp only [List.map_toArray, List.map_cons, List.map_nil]); first | done | rfl | (simp only [List.length_drop, List.length_take]; rfl)) ?_; (with_reducible refine (customsref33_Encode.calls k a1_0 _ _ l1_1 t332 t335 _ ?side1 ?side2 A3.out).mono ?_); (case side1 => exact pC (Kd.C_below HR1_1.out HB.out)); (case side2 => exact HC1_1.out); rintro e w25 ⟨v333, rfl, ho0, hb⟩; refine ⟨_, rfl, ?_⟩; have n0_ := Aside0.mk (Kd.R_lower (Kd.R_newM (M := fun k_ => (w.heap.size ≤ k_)) ho0 (below_size (by exact pB HB.out)) (fun k_ h_ => h_)) (below_size (by exact pB HB.out))); have n1_ := Aside0.mk (blk_below (g := gb331) (o := .cells #[.slice none 0 0, .slice none 0 0] 24 (0, 0)) (by exact pK BK331.out) hb); have n2_ := Aside0.mk (below_step (by exact pB HB.out) hb); clear BK331; clear HB; have HO334 := n0_; have BK331 := n1_; have HB := n2_; clear n0_ n1_ n2_; (try clear hb); (try clear hb2); (try clear hk); (try clear hi); (try clear ho0); have hcz26_0 : w25.cell? ⟨gb331, 0, none⟩ = some (.slice none 0 0) := (blk_cell BK331.out 0).trans rfl; have hcz26_1 : w25.cell? ⟨gb331, 1, none⟩ = some (.slice none 0 0) := (blk_cell BK331.out 1).trans rfl; have hfz26_0 := blk_frozen BK331.out 0; have hfz26_1 := blk_frozen BK331.out 1))
    refine bodyPost_ret (results_ct rfl _ _ gb331 24 #[.slice none 0 0, .slice none 0 0] (0, 0) _ rfl (by (with_reducible repeat (first | refine blk_drewN ?_ _ | refine blk_drew ?_ | refine blk_alloc ?_ _)); refine blk_put (cs := #[.slice none 0 0, .slice none 0 0]) ?_ 1 _ rfl; (with_reducible repeat (first | refine blk_drewN ?_ _ | refine blk_drew ?_ | refine blk_alloc ?_ _)); refine blk_put (cs := #[.slice none 0 0, .slice none 0 0]) ?_ 0 _ rfl; (with_reducible repeat (first | refine blk_drewN ?_ _ | refine blk_drew ?_ | refine blk_alloc ?_ _)); exact BK331.out) Try.underlying24 rfl (by kernel_rfl)) rfl ?_
    exact ⟨_, _, by first | rfl | (simp [errW_none, errW_some] <;> rfl) | (simp [*, errW_none, errW_some] <;> rfl), by first | exact Kd.R_nil _ _ _ _ _ | exact Kd.N_nil _ _ _ _ _ | exact Kd.V_nil _ _ _ _ _ | exact Kd.Q_nil _ _ _ _ _ | exact Kd.S_nil _ _ _ _ _, by first | exact Kd.R_nil _ _ _ _ _ | exact Kd.N_nil _ _ _ _ _ | exact Kd.V_nil _ _ _ _ _ | exact Kd.Q_nil _ _ _ _ _ | exact Kd.S_nil _ _ _ _ _, by repeat (first | (with_reducible first | exact HB.out | apply below_alloc | apply pw_below_drewN | apply below_drew1 | refine below_set ?_ GE331.out) | exact HB.out)⟩

/-! ### customsref33_Append: function 37 -/
def customsref33_Append.f (k : Nat) (l0_0 : List Int) (l0_1 : List Int) (l1 : List Int) : Option (List Int × List Int × Int) := (customsref33_Put.f k l0_0 l0_1 1 l1).bind fun bt345 => (if bt345.2.2 = 0 then ((customsref33_Sync.f bt345.1 bt345.2.1).bind fun bt353 => (some (bt353.1, bt353.2, 0))) else (some (([] : List Int), ([] : List Int), bt345.2.2)))
theorem customsref33_Append.mono : ∀ a0 a1 a2 k, LeO (customsref33_Append.f k a0 a1 a2) (customsref33_Append.f (k + 1) a0 a1 a2) := by
  intro a0 a1 a2 k
  unfold customsref33_Append.f
  repeat' first
      | (with_reducible exact customsref33_Put.mono _ _ _ _ _)
      | (with_reducible exact LeO.refl _)
      | (with_reducible exact LeO.none _)
      | (with_reducible refine LeO.ite ?_ ?_)
      | (with_reducible refine LeO.bind ?_ (fun _ => ?_))
      | exact customsref33_Put.mono _ _ _ _ _
      | exact LeO.none _
      | refine LeO.ite ?_ ?_
      | refine LeO.bind ?_ (fun _ => ?_)
set_option maxHeartbeats 8000000 in
set_option maxRecDepth 100000 in
theorem customsref33_Append.calls (k : Nat) (A0_0 : Option Addr) (c0_0 : Nat) (l0_0 : List Int) (A0_1 : Option Addr) (c0_1 : Nat) (l0_1 : List Int) (A1 : Option Addr) (c1 : Nat) (l1 : List Int) (r1 : List Int) (r2 : List Int) (r3 : Int) (w : World) (hr0_0 : Kd.C (Kd.int .u8) w A0_0 l0_0.length l0_0) (hc0_0 : l0_0.length ≤ c0_0) (hr0_1 : Kd.C (Kd.int .u8) w A0_1 l0_1.length l0_1) (hc0_1 : l0_1.length ≤ c0_1) (hr1 : Kd.C (Kd.int .u8) w A1 l1.length l1) (hc1 : l1.length ≤ c1) (h : customsref33_Append.f k l0_0 l0_1 l1 = some (r1, r2, r3)) :
    Calls Try.prog 37 #[.agg #[.slice A0_0 l0_0.length c0_0, .slice A0_1 l0_1.length c0_1], .slice A1 l1.length c1] w fun e w' => ∃ v0_ v1_ : Value, e = .returned (.tuple #[.agg #[v0_, v1_], .int .i64 r3]) ∧ Kd.R (Kd.int .u8) 5 w' w.heap.size (fun k_ => some k_ ≠ (v1_ : Value).ownBlock) v0_ r1 ∧ Kd.R (Kd.int .u8) 5 w' w.heap.size (fun k_ => some k_ ≠ (v0_ : Value).ownBlock) v1_ r2 ∧ Below w.heap.size w w' := by
  have hu24 := Try.underlying24
  have hu43 := Try.underlying43
  have HR0_0 := Aside0.mk hr0_0
  have HC0_0 := Aside0.mk hc0_0
  clear hr0_0 hc0_0
  have HR0_1 := Aside0.mk hr0_1
  have HC0_1 := Aside0.mk hc0_1
  clear hr0_1 hc0_1
  have HR1 := Aside0.mk hr1
  have HC1 := Aside0.mk hc1
  clear hr1 hc1
  have HB := Aside0.mk (Below.refl w.heap.size w)
  have H : ((customsref33_Put.f k l0_0 l0_1 1 l1).bind fun bt345 => (if bt345.2.2 = 0 then ((customsref33_Sync.f bt345.1 bt345.2.1).bind fun bt353 => (some (bt353.1, bt353.2, 0))) else (some (([] : List Int), ([] : List Int), bt345.2.2)))) = some (r1, r2, r3) := h
  clear h
  replace H := Option.bind_eq_some_iff.mp H
  obtain ⟨⟨t345, t348, t351⟩, A30, H⟩ := H
  replace H : (if t351 = 0 then ((customsref33_Sync.f t345 t348).bind fun bt353 => (some (bt353.1, bt353.2, 0))) else (some (([] : List Int), ([] : List Int), t351))) = some (r1, r2, r3) := H
  have A3 := Aside0.mk A30
  clear A30
  by_cases c4 : t351 = 0
  · rw [if_pos c4] at H
    have c4b0 : (t351 == 0) = true := beq_iff_eq.mpr c4
    have c4b1 : (t351 != 0) = false := bne_eq_false_iff_eq.mpr c4
    clear c4
    replace H := Option.bind_eq_some_iff.mp H
    obtain ⟨⟨t353, t356⟩, A50, H⟩ := H
    replace H : (some (t353, t356, 0)) = some (r1, r2, r3) := H
    have A5 := Aside0.mk A50
    clear A50
    simp only [Option.some.injEq, Prod.mk.injEq] at H
    obtain ⟨rfl, rfl, rfl⟩ := H
    go_enter Try.func37, Try.ntmps37
    go_wp2_with (first | ((with_reducible refine gate_dst (N := 2) rfl ?_); refine box_event ?hg (N := 2) ?hd (cs := #[.slice A0_0 l0_0.length c0_0, .slice A0_1 l0_1.length c0_1]) (t := 24) ?hr ?_; (case hd => rfl); (case hg => rfl); (case hr => first | (go_simp; done) | (go_simp; rfl)); intro gb343 hg w6 hbox hb; have n0_ := Aside0.mk (below_step (by exact pB HB.out) hb); have n1_ := Aside0.mk (hbox); have n2_ := Aside0.mk ((by rw [hg]; exact (below_size (by exact pB HB.out)) : w.heap.size ≤ gb343)); have n3_ := Aside0.mk ((by rw [hg]; exact (below_size (by exact pB HB.out)) : w.heap.size ≤ gb343)); clear HB; have HB := n0_; have BK343 := n1_; have GW343 := n2_; have GE343 := n3_; clear n0_ n1_ n2_ n3_; clear hb hbox hg) | ((with_reducible refine gate_dst (N := 4) rfl ?_); refine box_event ?hg (N := 4) ?hd (cs := #[.slice none 0 0, .slice none 0 0]) (t := 24) ?hr ?_; (case hd => rfl); (case hg => rfl); (case hr => first | (go_simp; done) | (go_simp; rfl)); intro gb344 hg w7 hbox hb; have n0_ := Aside0.mk (blk_below (g := gb343) (o := .cells #[.slice A0_0 l0_0.length c0_0, .slice A0_1 l0_1.length c0_1] 24 (0, 0)) (by exact pK BK343.out) hb); have n1_ := Aside0.mk (below_step (by exact pB HB.out) hb); have n2_ := Aside0.mk (hbox); have n3_ := Aside0.mk ((by rw [hg]; exact (below_size (by exact pB HB.out)) : w.heap.size ≤ gb344)); have n4_ := Aside0.mk ((by rw [hg]; exact (below_size (by exact pB HB.out)) : w.heap.size ≤ gb344)); have n5_ := Aside0.mk ((by rw [hg]; exact Nat.ne_of_lt (blk_lt (g := gb343) (o := .cells #[.slice A0_0 l0_0.length c0_0, .slice A0_1 l0_1.length c0_1] 24 (0, 0)) (by exact pK BK343.out)) : gb343 ≠ gb344)); have n6_ := Aside0.mk ((by rw [hg]; exact Nat.ne_of_gt (blk_lt (g := gb343) (o := .cells #[.slice A0_0 l0_0.length c0_0, .slice A0_1 l0_1.length c0_1] 24 (0, 0)) (by exact pK BK343.out)) : gb344 ≠ gb343)); clear BK343; clear HB; have BK343 := n0_; have HB := n1_; have BK344 := n2_; have GW344 := n3_; have GE344 := n4_; have NB343_344 := n5_; have NB344_343 := n6_; clear n0_ n1_ n2_ n3_ n4_ n5_ n6_; clear hb hbox hg; have hnb8 := NB343_344.out; have hnc8 := NB344_343.out; have hcz9_0 : w7.cell? ⟨gb343, 0, none⟩ = some (.slice A0_0 l0_0.length c0_0) := (blk_cell BK343.out 0).trans rfl; have hcz9_1 : w7.cell? ⟨gb343, 1, none⟩ = some (.slice A0_1 l0_1.length c0_1) := (blk_cell BK343.out 1).trans rfl; have hfz9_0 := blk_frozen BK343.out 0; have hfz9_1 := blk_frozen BK343.out 1) | ((with_reducible refine gate_callee (f := 34) rfl ?_); refine goesL_ (some 12) rfl rfl Try.func34 (by kernel_rfl) rfl #[.agg #[.slice A0_0 l0_0.length c0_0, .slice A0_1 l0_1.length c0_1], .agg #[.int .i64 1, .slice A1 l1.length c1]] rfl (by (try simp only [List.map_toArray, List.map_cons, List.map_nil]); first | done | rfl | (simp only [List.length_drop, List.length_take]; rfl)) ?_; (with_reducible refine (customsref33_Put.calls k (fun k_ => k_ < w.heap.size) _ _ l0_0 _ _ l0_1 1 _ _ l1 t345 t348 t351 _ ?side1 ?side2 ?side3 ?side4 ?side5 A3.out).mono ?_); (case side1 => exact Kd.V_mk HC0_0.out (Kd.F_below (Kd.C_F (Kd.heap_int .u8) HR0_0.out) (by exact pB HB.out))); (case side2 => exact pC (Kd.C_below HR0_1.out HB.out)); (case side3 => exact HC0_1.out); (case side4 => exact pC (Kd.C_below HR1.out HB.out)); (case side5 => exact HC1.out); rintro e w10 ⟨v346, v349, rfl, ho0, ho1, hb⟩; refine ⟨_, rfl, ?_⟩; have n0_ := Aside0.mk (Kd.V_lower (Kd.V_mono (ok' := fun k_ => some k_ ≠ (v349 : Value).ownBlock ∧ k_ ≠ gb344) ho0 (fun k_ hk_ => ⟨hk_.2, Or.elim hk_.1 (fun hs_ => fun e_ => Nat.not_le.2 hs_ (by rw [e_]; exact GW344.out)) (fun hn_ => (Kd.freshB (g := gb344) (o := .cells #[.slice none 0 0, .slice none 0 0] 24 (0, 0)) (by exact pK BK344.out) k_ hn_))⟩)) (below_size (by exact pB HB.out))); have n1_ := Aside0.mk (Kd.R_lower (Kd.R_mono (ok' := fun k_ => True) ho1 (fun _ hk_ => trivial)) (below_size (by exact pB HB.out))); have n2_ := Aside0.mk (blk_below (g := gb344) (o := .cells #[.slice none 0 0, .slice none 0 0] 24 (0, 0)) (by exact pK BK344.out) hb); have n3_ := Aside0.mk (below_step (by exact pB HB.out) hb); clear BK344; clear HB; have HO347 := n0_; have HO350 := n1_; have BK344 := n2_; have HB := n3_; clear n0_ n1_ n2_ n3_; (try clear hb); (try clear hb2); (try clear hk); (try clear hi); (try clear ho0); (try clear ho1)) | ((with_reducible refine gate_dst (N := 6) rfl ?_); refine box_event ?hg (N := 6) ?hd (cs := #[.slice none 0 0, .slice none 0 0]) (t := 24) ?hr ?_; (case hd => rfl); (case hg => rfl); (case hr => first | (go_simp; done) | (go_simp; rfl)); intro gb352 hg w11 hbox hb; have n0_ := Aside0.mk (Kd.V_below (Kd.V_elderB (by exact pV HO347.out) gb352 (Nat.le_of_eq hg.symm)) hb); have n1_ := Aside0.mk (Kd.R_below (by exact pR HO350.out) hb); have n2_ := Aside0.mk (blk_below (g := gb344) (o := .cells #[.slice none 0 0, .slice none 0 0] 24 (0, 0)) (by exact pK BK344.out) hb); have n3_ := Aside0.mk (below_step (by exact pB HB.out) hb); have n4_ := Aside0.mk (hbox); have n5_ := Aside0.mk ((by rw [hg]; exact (below_size (by exact pB HB.out)) : w.heap.size ≤ gb352)); have n6_ := Aside0.mk ((by rw [hg]; exact (below_size (by exact pB HB.out)) : w.heap.size ≤ gb352)); have n7_ := Aside0.mk ((by rw [hg]; exact Nat.ne_of_lt (blk_lt (g := gb344) (o := .cells #[.slice none 0 0, .slice none 0 0] 24 (0, 0)) (by exact pK BK344.out)) : gb344 ≠ gb352)); have n8_ := Aside0.mk ((by rw [hg]; exact Nat.ne_of_gt (blk_lt (g := gb344) (o := .cells #[.slice none 0 0, .slice none 0 0] 24 (0, 0)) (by exact pK BK344.out)) : gb352 ≠ gb344)); clear HO347; clear HO350; clear BK344; clear HB; have HO347 := n0_; have HO350 := n1_; have BK344 := n2_; have HB := n3_; have BK352 := n4_; have GW352 := n5_; have GE352 := n6_; have NB344_352 := n7_; have NB352_344 := n8_; clear n0_ n1_ n2_ n3_ n4_ n5_ n6_ n7_ n8_; clear hb hbox hg; obtain ⟨Ao12, co12, eo12⟩ := Kd.V_slice HO347.out; subst eo12; have hnb13 := NB352_344.out; have hnc13 := NB344_352.out; have hcz14_0 : w11.cell? ⟨gb352, 0, none⟩ = some (.slice none 0 0) := (blk_cell BK352.out 0).trans rfl; have hcz14_1 : w11.cell? ⟨gb352, 1, none⟩ = some (.slice none 0 0) := (blk_cell BK352.out 1).trans rfl; have hfz14_0 := blk_frozen BK352.out 0; have hfz14_1 := blk_frozen BK352.out 1; obtain ⟨Ao15, co15, eo15⟩ := Kd.R_slice HO350.out; subst eo15) | ((with_reducible refine gate_callee (f := 16) rfl ?_); refine goesL_ (some 20) rfl rfl Try.func16 (by kernel_rfl) rfl #[.agg #[.slice Ao12 t345.length co12, .slice Ao15 t348.length co15]] rfl (by (try simp only [List.map_toArray, List.map_cons, List.map_nil]); first | done | rfl | (simp only [List.length_drop, List.length_take]; rfl)) ?_; (with_reducible refine (customsref33_Sync.calls _ _ t345 _ _ t348 t353 t356 _ ?side1 ?side2 ?side3 ?side4 A5.out).mono ?_); (case side1 => refine (Kd.V_reads' (e := 5) (base := w.heap.size) (ok := fun k_ => ((some k_ ≠ (.slice Ao15 t348.length co15 : Value).ownBlock ∧ k_ ≠ gb344) ∧ k_ ≠ gb352)) (n := t345.length) (c := co12) ?_).2.2; exact (by (with_reducible repeat (first | apply Kd.V_alloc | apply Kd.V_drewN | apply Kd.V_drew)); exact (Kd.V_mono (Kd.V_far (p := ⟨gb352, 1, none⟩) (Kd.V_far (p := ⟨gb352, 0, none⟩) (Kd.V_mono HO347.out (fun k_ hk => (⟨hk, hk.2⟩ : _ ∧ k_ ≠ gb352))) (fun _ hk => hk.2) (.slice Ao12 t345.length co12)) (fun _ hk => hk.2) (.slice Ao15 t348.length co15)) (fun _ h_ => h_.1)))); (case side2 => exact (Kd.V_reads' HO347.out).2.1); (case side3 => refine (Kd.R_reads' (e := 5) (base := w.heap.size) (ok := fun k_ => True) (n := t348.length) (c := co15) ?_).2.2; exact (by (with_reducible repeat (first | apply Kd.R_alloc | apply Kd.R_drewN | apply Kd.R_drew)); exact (Kd.R_mono (Kd.R_far (p := ⟨gb352, 1, none⟩) (Kd.R_far (p := ⟨gb352, 0, none⟩) (Kd.R_types HO350.out BK352.out (by decide)) (fun _ hk => hk.2) (.slice Ao12 t345.length co12)) (fun _ hk => hk.2) (.slice Ao15 t348.length co15)) (fun _ h_ => h_.1)))); (case side4 => exact (Kd.R_reads' HO350.out).2.1); rintro e w16 ⟨v354, v357, rfl, ho0, ho1, hb⟩; refine ⟨_, rfl, ?_⟩; have n0_ := Aside0.mk (Kd.V_mono (Kd.V_told (Kd.V_told (Kd.V_old (by (with_reducible repeat (first | apply Kd.V_alloc | apply Kd.V_drewN | apply Kd.V_drew)); exact (Kd.V_mono (Kd.V_far (p := ⟨gb352, 1, none⟩) (Kd.V_far (p := ⟨gb352, 0, none⟩) (Kd.V_mono HO347.out (fun k_ hk => (⟨hk, hk.2⟩ : _ ∧ k_ ≠ gb352))) (fun _ hk => hk.2) (.slice Ao12 t345.length co12)) (fun _ hk => hk.2) (.slice Ao15 t348.length co15)) (fun _ h_ => h_.1))) hb) (Kd.R_base ho0)) (Kd.R_base ho1)) (fun _ h_ => h_.1)); have n1_ := Aside0.mk (Kd.R_mono (Kd.R_told (Kd.R_told (Kd.R_old (by (with_reducible repeat (first | apply Kd.R_alloc | apply Kd.R_drewN | apply Kd.R_drew)); exact (Kd.R_mono (Kd.R_far (p := ⟨gb352, 1, none⟩) (Kd.R_far (p := ⟨gb352, 0, none⟩) (Kd.R_types HO350.out BK352.out (by decide)) (fun _ hk => hk.2) (.slice Ao12 t345.length co12)) (fun _ hk => hk.2) (.slice Ao15 t348.length co15)) (fun _ h_ => h_.1))) hb) (Kd.R_base ho0)) (Kd.R_base ho1)) (fun _ h_ => h_.1)); have n2_ := Aside0.mk (Kd.R_lower (Kd.R_new' ho0 (Kd.R_lt (by (with_reducible repeat (first | apply Kd.R_alloc | apply Kd.R_drewN | apply Kd.R_drew)); exact (Kd.R_mono (Kd.R_far (p := ⟨gb352, 1, none⟩) (Kd.R_far (p := ⟨gb352, 0, none⟩) (Kd.R_types HO350.out BK352.out (by decide)) (fun _ hk => hk.2) (.slice Ao12 t345.length co12)) (fun _ hk => hk.2) (.slice Ao15 t348.length co15)) (fun _ h_ => h_.1))))) (below_size (by repeat (first | (with_reducible first | exact HB.out | apply below_alloc | apply pw_below_drewN | apply below_drew1 | refine below_set ?_ GE344.out | refine below_set ?_ GE352.out) | exact HB.out)))); have n3_ := Aside0.mk (Kd.R_lower (Kd.R_new' ho1 (Kd.R_lt (by (with_reducible repeat (first | apply Kd.R_alloc | apply Kd.R_drewN | apply Kd.R_drew)); exact (Kd.R_mono (Kd.R_far (p := ⟨gb352, 1, none⟩) (Kd.R_far (p := ⟨gb352, 0, none⟩) (Kd.R_types HO350.out BK352.out (by decide)) (fun _ hk => hk.2) (.slice Ao12 t345.length co12)) (fun _ hk => hk.2) (.slice Ao15 t348.length co15)) (fun _ h_ => h_.1))))) (below_size (by repeat (first | (with_reducible first | exact HB.out | apply below_alloc | apply pw_below_drewN | apply below_drew1 | refine below_set ?_ GE344.out | refine below_set ?_ GE352.out) | exact HB.out)))); have n4_ := Aside0.mk (blk_below (g := gb344) (o := .cells #[.slice none 0 0, .slice none 0 0] 24 (0, 0)) (by (with_reducible repeat (first | refine blk_drewN ?_ _ | refine blk_drew ?_ | refine blk_alloc ?_ _)); refine blk_far ?_ NB344_352.out _; (with_reducible repeat (first | refine blk_drewN ?_ _ | refine blk_drew ?_ | refine blk_alloc ?_ _)); refine blk_far ?_ NB344_352.out _; (with_reducible repeat (first | refine blk_drewN ?_ _ | refine blk_drew ?_ | refine blk_alloc ?_ _)); exact BK344.out) hb); have n5_ := Aside0.mk (blk_below (g := gb352) (o := .cells #[.slice Ao12 t345.length co12, .slice Ao15 t348.length co15] 24 (0, 0)) (by (with_reducible repeat (first | refine blk_drewN ?_ _ | refine blk_drew ?_ | refine blk_alloc ?_ _)); refine blk_put (cs := #[.slice Ao12 t345.length co12, .slice none 0 0]) ?_ 1 _ rfl; (with_reducible repeat (first | refine blk_drewN ?_ _ | refine blk_drew ?_ | refine blk_alloc ?_ _)); refine blk_put (cs := #[.slice none 0 0, .slice none 0 0]) ?_ 0 _ rfl; (with_reducible repeat (first | refine blk_drewN ?_ _ | refine blk_drew ?_ | refine blk_alloc ?_ _)); exact BK352.out) hb); have n6_ := Aside0.mk (below_step (by repeat (first | (with_reducible first | exact HB.out | apply below_alloc | apply pw_below_drewN | apply below_drew1 | refine below_set ?_ GE344.out | refine below_set ?_ GE352.out) | exact HB.out)) hb); clear HO347; clear HO350; clear BK344; clear BK352; clear HB; have HO347 := n0_; have HO350 := n1_; have HO355 := n2_; have HO358 := n3_; have BK344 := n4_; have BK352 := n5_; have HB := n6_; clear n0_ n1_ n2_ n3_ n4_ n5_ n6_; (try clear hb); (try clear hb2); (try clear hk); (try clear hi); (try clear ho0); (try clear ho1); obtain ⟨Ao17, co17, eo17⟩ := Kd.R_slice HO355.out; subst eo17; have hcz18_0 : w16.cell? ⟨gb344, 0, none⟩ = some (.slice none 0 0) := (blk_cell BK344.out 0).trans rfl; have hcz18_1 : w16.cell? ⟨gb344, 1, none⟩ = some (.slice none 0 0) := (blk_cell BK344.out 1).trans rfl; have hfz18_0 := blk_frozen BK344.out 0; have hfz18_1 := blk_frozen BK344.out 1; obtain ⟨Ao19, co19, eo19⟩ := Kd.R_slice HO358.out; subst eo19))
    refine bodyPost_ret (results_ct rfl _ _ gb344 24 #[.slice Ao17 t353.length co17, .slice Ao19 t356.length co19] (0, 0) _ rfl (by (with_reducible repeat (first | refine blk_drewN ?_ _ | refine blk_drew ?_ | refine blk_alloc ?_ _)); refine blk_put (cs := #[.slice Ao17 t353.length co17, .slice none 0 0]) ?_ 1 _ rfl; (with_reducible repeat (first | refine blk_drewN ?_ _ | refine blk_drew ?_ | refine blk_alloc ?_ _)); refine blk_put (cs := #[.slice none 0 0, .slice none 0 0]) ?_ 0 _ rfl; (with_reducible repeat (first | refine blk_drewN ?_ _ | refine blk_drew ?_ | refine blk_alloc ?_ _)); exact BK344.out) Try.underlying24 rfl (by kernel_rfl)) rfl ?_
    exact ⟨_, _, by first | rfl | (simp [errW_none, errW_some] <;> rfl) | (simp [*, errW_none, errW_some] <;> rfl), by (with_reducible repeat (first | apply Kd.R_alloc | apply Kd.R_drewN | apply Kd.R_drew)); exact Kd.R_mono (Kd.R_far (p := ⟨gb344, 1, none⟩) (Kd.R_far (p := ⟨gb344, 0, none⟩) (Kd.R_types HO355.out BK344.out (by decide)) (fun _ hk => hk.2) (.slice Ao17 t353.length co17)) (fun _ hk => hk.2) (.slice Ao19 t356.length co19)) (fun _ hk => hk.1.1), by (with_reducible repeat (first | apply Kd.R_alloc | apply Kd.R_drewN | apply Kd.R_drew)); exact Kd.R_mono (Kd.R_far (p := ⟨gb344, 1, none⟩) (Kd.R_far (p := ⟨gb344, 0, none⟩) (Kd.R_types HO358.out BK344.out (by decide)) (fun _ hk => hk.2) (.slice Ao17 t353.length co17)) (fun _ hk => hk.2) (.slice Ao19 t356.length co19)) (fun _ hk => hk.1.1), by repeat (first | (with_reducible first | exact HB.out | apply below_alloc | apply pw_below_drewN | apply below_drew1 | refine below_set ?_ GE344.out | refine below_set ?_ GE352.out) | exact HB.out)⟩
  · rw [if_neg c4] at H
    have c4b0 : (t351 == 0) = false := beq_eq_false_iff_ne.mpr c4
    have c4b1 : (t351 != 0) = true := bne_iff_ne.mpr c4
    simp only [Option.some.injEq, Prod.mk.injEq] at H
    obtain ⟨rfl, rfl, rfl⟩ := H
    go_enter Try.func37, Try.ntmps37
    go_wp2_with (first | ((with_reducible refine gate_dst (N := 2) rfl ?_); refine box_event ?hg (N := 2) ?hd (cs := #[.slice A0_0 l0_0.length c0_0, .slice A0_1 l0_1.length c0_1]) (t := 24) ?hr ?_; (case hd => rfl); (case hg => rfl); (case hr => first | (go_simp; done) | (go_simp; rfl)); intro gb343 hg w20 hbox hb; have n0_ := Aside0.mk (below_step (by exact pB HB.out) hb); have n1_ := Aside0.mk (hbox); have n2_ := Aside0.mk ((by rw [hg]; exact (below_size (by exact pB HB.out)) : w.heap.size ≤ gb343)); have n3_ := Aside0.mk ((by rw [hg]; exact (below_size (by exact pB HB.out)) : w.heap.size ≤ gb343)); clear HB; have HB := n0_; have BK343 := n1_; have GW343 := n2_; have GE343 := n3_; clear n0_ n1_ n2_ n3_; clear hb hbox hg) | ((with_reducible refine gate_dst (N := 4) rfl ?_); refine box_event ?hg (N := 4) ?hd (cs := #[.slice none 0 0, .slice none 0 0]) (t := 24) ?hr ?_; (case hd => rfl); (case hg => rfl); (case hr => first | (go_simp; done) | (go_simp; rfl)); intro gb344 hg w21 hbox hb; have n0_ := Aside0.mk (blk_below (g := gb343) (o := .cells #[.slice A0_0 l0_0.length c0_0, .slice A0_1 l0_1.length c0_1] 24 (0, 0)) (by exact pK BK343.out) hb); have n1_ := Aside0.mk (below_step (by exact pB HB.out) hb); have n2_ := Aside0.mk (hbox); have n3_ := Aside0.mk ((by rw [hg]; exact (below_size (by exact pB HB.out)) : w.heap.size ≤ gb344)); have n4_ := Aside0.mk ((by rw [hg]; exact (below_size (by exact pB HB.out)) : w.heap.size ≤ gb344)); have n5_ := Aside0.mk ((by rw [hg]; exact Nat.ne_of_lt (blk_lt (g := gb343) (o := .cells #[.slice A0_0 l0_0.length c0_0, .slice A0_1 l0_1.length c0_1] 24 (0, 0)) (by exact pK BK343.out)) : gb343 ≠ gb344)); have n6_ := Aside0.mk ((by rw [hg]; exact Nat.ne_of_gt (blk_lt (g := gb343) (o := .cells #[.slice A0_0 l0_0.length c0_0, .slice A0_1 l0_1.length c0_1] 24 (0, 0)) (by exact pK BK343.out)) : gb344 ≠ gb343)); clear BK343; clear HB; have BK343 := n0_; have HB := n1_; have BK344 := n2_; have GW344 := n3_; have GE344 := n4_; have NB343_344 := n5_; have NB344_343 := n6_; clear n0_ n1_ n2_ n3_ n4_ n5_ n6_; clear hb hbox hg; have hnb22 := NB343_344.out; have hnc22 := NB344_343.out; have hcz23_0 : w21.cell? ⟨gb343, 0, none⟩ = some (.slice A0_0 l0_0.length c0_0) := (blk_cell BK343.out 0).trans rfl; have hcz23_1 : w21.cell? ⟨gb343, 1, none⟩ = some (.slice A0_1 l0_1.length c0_1) := (blk_cell BK343.out 1).trans rfl; have hfz23_0 := blk_frozen BK343.out 0; have hfz23_1 := blk_frozen BK343.out 1) | ((with_reducible refine gate_callee (f := 34) rfl ?_); refine goesL_ (some 12) rfl rfl Try.func34 (by kernel_rfl) rfl #[.agg #[.slice A0_0 l0_0.length c0_0, .slice A0_1 l0_1.length c0_1], .agg #[.int .i64 1, .slice A1 l1.length c1]] rfl (by (try simp only [List.map_toArray, List.map_cons, List.map_nil]); first | done | rfl | (simp only [List.length_drop, List.length_take]; rfl)) ?_; (with_reducible refine (customsref33_Put.calls k (fun k_ => k_ < w.heap.size) _ _ l0_0 _ _ l0_1 1 _ _ l1 t345 t348 t351 _ ?side1 ?side2 ?side3 ?side4 ?side5 A3.out).mono ?_); (case side1 => exact Kd.V_mk HC0_0.out (Kd.F_below (Kd.C_F (Kd.heap_int .u8) HR0_0.out) (by exact pB HB.out))); (case side2 => exact pC (Kd.C_below HR0_1.out HB.out)); (case side3 => exact HC0_1.out); (case side4 => exact pC (Kd.C_below HR1.out HB.out)); (case side5 => exact HC1.out); rintro e w24 ⟨v346, v349, rfl, ho0, ho1, hb⟩; refine ⟨_, rfl, ?_⟩; have n0_ := Aside0.mk (Kd.V_lower (Kd.V_mono (ok' := fun k_ => some k_ ≠ (v349 : Value).ownBlock ∧ k_ ≠ gb344) ho0 (fun k_ hk_ => ⟨hk_.2, Or.elim hk_.1 (fun hs_ => fun e_ => Nat.not_le.2 hs_ (by rw [e_]; exact GW344.out)) (fun hn_ => (Kd.freshB (g := gb344) (o := .cells #[.slice none 0 0, .slice none 0 0] 24 (0, 0)) (by exact pK BK344.out) k_ hn_))⟩)) (below_size (by exact pB HB.out))); have n1_ := Aside0.mk (Kd.R_lower (Kd.R_mono (ok' := fun k_ => True) ho1 (fun _ hk_ => trivial)) (below_size (by exact pB HB.out))); have n2_ := Aside0.mk (blk_below (g := gb344) (o := .cells #[.slice none 0 0, .slice none 0 0] 24 (0, 0)) (by exact pK BK344.out) hb); have n3_ := Aside0.mk (below_step (by exact pB HB.out) hb); clear BK344; clear HB; have HO347 := n0_; have HO350 := n1_; have BK344 := n2_; have HB := n3_; clear n0_ n1_ n2_ n3_; (try clear hb); (try clear hb2); (try clear hk); (try clear hi); (try clear ho0); (try clear ho1)) | ((with_reducible refine gate_dst (N := 6) rfl ?_); refine box_event ?hg (N := 6) ?hd (cs := #[.slice none 0 0, .slice none 0 0]) (t := 24) ?hr ?_; (case hd => rfl); (case hg => rfl); (case hr => first | (go_simp; done) | (go_simp; rfl)); intro gb352 hg w25 hbox hb; have n0_ := Aside0.mk (Kd.V_below (Kd.V_elderB (by exact pV HO347.out) gb352 (Nat.le_of_eq hg.symm)) hb); have n1_ := Aside0.mk (Kd.R_below (by exact pR HO350.out) hb); have n2_ := Aside0.mk (blk_below (g := gb344) (o := .cells #[.slice none 0 0, .slice none 0 0] 24 (0, 0)) (by exact pK BK344.out) hb); have n3_ := Aside0.mk (below_step (by exact pB HB.out) hb); have n4_ := Aside0.mk (hbox); have n5_ := Aside0.mk ((by rw [hg]; exact (below_size (by exact pB HB.out)) : w.heap.size ≤ gb352)); have n6_ := Aside0.mk ((by rw [hg]; exact (below_size (by exact pB HB.out)) : w.heap.size ≤ gb352)); have n7_ := Aside0.mk ((by rw [hg]; exact Nat.ne_of_lt (blk_lt (g := gb344) (o := .cells #[.slice none 0 0, .slice none 0 0] 24 (0, 0)) (by exact pK BK344.out)) : gb344 ≠ gb352)); have n8_ := Aside0.mk ((by rw [hg]; exact Nat.ne_of_gt (blk_lt (g := gb344) (o := .cells #[.slice none 0 0, .slice none 0 0] 24 (0, 0)) (by exact pK BK344.out)) : gb352 ≠ gb344)); clear HO347; clear HO350; clear BK344; clear HB; have HO347 := n0_; have HO350 := n1_; have BK344 := n2_; have HB := n3_; have BK352 := n4_; have GW352 := n5_; have GE352 := n6_; have NB344_352 := n7_; have NB352_344 := n8_; clear n0_ n1_ n2_ n3_ n4_ n5_ n6_ n7_ n8_; clear hb hbox hg; obtain ⟨Ao26, co26, eo26⟩ := Kd.V_slice HO347.out; subst eo26; have hnb27 := NB352_344.out; have hnc27 := NB344_352.out; have hcz28_0 : w25.cell? ⟨gb352, 0, none⟩ = some (.slice none 0 0) := (blk_cell BK352.out 0).trans rfl; have hcz28_1 : w25.cell? ⟨gb352, 1, none⟩ = some (.slice none 0 0) := (blk_cell BK352.out 1).trans rfl; have hfz28_0 := blk_frozen BK352.out 0; have hfz28_1 := blk_frozen BK352.out 1; obtain ⟨Ao29, co29, eo29⟩ := Kd.R_slice HO350.out; subst eo29; have hcz30_0 : w25.cell? ⟨gb344, 0, none⟩ = some (.slice none 0 0) := (blk_cell BK344.out 0).trans rfl; have hcz30_1 : w25.cell? ⟨gb344, 1, none⟩ = some (.slice none 0 0) := (blk_cell BK344.out 1).trans rfl; have hfz30_0 := blk_frozen BK344.out 0; have hfz30_1 := blk_frozen BK344.out 1))
    refine bodyPost_ret (results_ct rfl _ _ gb344 24 #[.slice none 0 0, .slice none 0 0] (0, 0) _ rfl (by (with_reducible repeat (first | refine blk_drewN ?_ _ | refine blk_drew ?_ | refine blk_alloc ?_ _)); refine blk_put (cs := #[.slice none 0 0, .slice none 0 0]) ?_ 1 _ rfl; (with_reducible repeat (first | refine blk_drewN ?_ _ | refine blk_drew ?_ | refine blk_alloc ?_ _)); refine blk_put (cs := #[.slice none 0 0, .slice none 0 0]) ?_ 0 _ rfl; (with_reducible repeat (first | refine blk_drewN ?_ _ | refine blk_drew ?_ | refine blk_alloc ?_ _)); refine blk_far ?_ NB344_352.out _; (with_reducible repeat (first | refine blk_drewN ?_ _ | refine blk_drew ?_ | refine blk_alloc ?_ _)); refine blk_far ?_ NB344_352.out _; (with_reducible repeat (first | refine blk_drewN ?_ _ | refine blk_drew ?_ | refine blk_alloc ?_ _)); exact BK344.out) Try.underlying24 rfl (by kernel_rfl)) rfl ?_
    exact ⟨_, _, by first | rfl | (simp [errW_none, errW_some] <;> rfl) | (simp [*, errW_none, errW_some] <;> rfl), by first | exact Kd.R_nil _ _ _ _ _ | exact Kd.N_nil _ _ _ _ _ | exact Kd.V_nil _ _ _ _ _ | exact Kd.Q_nil _ _ _ _ _ | exact Kd.S_nil _ _ _ _ _, by first | exact Kd.R_nil _ _ _ _ _ | exact Kd.N_nil _ _ _ _ _ | exact Kd.V_nil _ _ _ _ _ | exact Kd.Q_nil _ _ _ _ _ | exact Kd.S_nil _ _ _ _ _, by repeat (first | (with_reducible first | exact HB.out | apply below_alloc | apply pw_below_drewN | apply below_drew1 | refine below_set ?_ GE344.out | refine below_set ?_ GE352.out) | exact HB.out)⟩

/-! ### customsref33_Truncate: function 25 -/
def customsref33_Truncate.f (l0_0 : List Int) (l0_1 : List Int) (a1 : Int) : Option (List Int × List Int × Int) := (customsref33_Read.f l0_0 l0_1).bind fun t361 => (if a1 < 0 then (some (([] : List Int), ([] : List Int), 2)) else (if a1 > (t361.length : Int) then (some (([] : List Int), ([] : List Int), 2)) else (if 0 ≤ a1 then (if a1 ≤ (t361.length : Int) then (some ((t361.take (a1 : Int).toNat), ([] : List Int), 0)) else (none)) else (none))))
set_option maxHeartbeats 8000000 in
set_option maxRecDepth 100000 in
theorem customsref33_Truncate.calls (A0_0 : Option Addr) (c0_0 : Nat) (l0_0 : List Int) (A0_1 : Option Addr) (c0_1 : Nat) (l0_1 : List Int) (a1 : Int) (r1 : List Int) (r2 : List Int) (r3 : Int) (w : World) (hr0_0 : Kd.C (Kd.int .u8) w A0_0 l0_0.length l0_0) (hc0_0 : l0_0.length ≤ c0_0) (hr0_1 : Kd.C (Kd.int .u8) w A0_1 l0_1.length l0_1) (hc0_1 : l0_1.length ≤ c0_1) (h : customsref33_Truncate.f l0_0 l0_1 a1 = some (r1, r2, r3)) :
    Calls Try.prog 25 #[.agg #[.slice A0_0 l0_0.length c0_0, .slice A0_1 l0_1.length c0_1], .int .i64 a1] w fun e w' => ∃ v0_ v1_ : Value, e = .returned (.tuple #[.agg #[v0_, v1_], .int .i64 r3]) ∧ Kd.R (Kd.int .u8) 5 w' w.heap.size (fun k_ => some k_ ≠ (v1_ : Value).ownBlock) v0_ r1 ∧ Kd.R (Kd.int .u8) 5 w' w.heap.size (fun k_ => some k_ ≠ (v0_ : Value).ownBlock) v1_ r2 ∧ Below w.heap.size w w' := by
  have hu24 := Try.underlying24
  have HR0_0 := Aside0.mk hr0_0
  have HC0_0 := Aside0.mk hc0_0
  clear hr0_0 hc0_0
  have HR0_1 := Aside0.mk hr0_1
  have HC0_1 := Aside0.mk hc0_1
  clear hr0_1 hc0_1
  have HB := Aside0.mk (Below.refl w.heap.size w)
  have H : ((customsref33_Read.f l0_0 l0_1).bind fun t361 => (if a1 < 0 then (some (([] : List Int), ([] : List Int), 2)) else (if a1 > (t361.length : Int) then (some (([] : List Int), ([] : List Int), 2)) else (if 0 ≤ a1 then (if a1 ≤ (t361.length : Int) then (some ((t361.take (a1 : Int).toNat), ([] : List Int), 0)) else (none)) else (none))))) = some (r1, r2, r3) := h
  clear h
  replace H := Option.bind_eq_some_iff.mp H
  obtain ⟨t361, A30, H⟩ := H
  replace H : (if a1 < 0 then (some (([] : List Int), ([] : List Int), 2)) else (if a1 > (t361.length : Int) then (some (([] : List Int), ([] : List Int), 2)) else (if 0 ≤ a1 then (if a1 ≤ (t361.length : Int) then (some ((t361.take (a1 : Int).toNat), ([] : List Int), 0)) else (none)) else (none)))) = some (r1, r2, r3) := H
  have A3 := Aside0.mk A30
  clear A30
  by_cases c4 : a1 < 0
  · rw [if_pos c4] at H
    have c4b0 : decide (a1 < 0) = true := decide_eq_true c4
    clear c4
    simp only [Option.some.injEq, Prod.mk.injEq] at H
    obtain ⟨rfl, rfl, rfl⟩ := H
    go_enter Try.func25, Try.ntmps25
    go_wp2_with (first | ((with_reducible refine gate_dst (N := 2) rfl ?_); (try (refine gate_guard (by rfl) ?_; dsimp only)); refine box_event ?hg (N := 2) ?hd (cs := #[.slice A0_0 l0_0.length c0_0, .slice A0_1 l0_1.length c0_1]) (t := 24) ?hr ?_; (case hd => rfl); (case hg => rfl); (case hr => first | (go_simp; done) | (go_simp; rfl)); intro gb359 hg w5 hbox hb; have n0_ := Aside0.mk (below_step (by exact pB HB.out) hb); have n1_ := Aside0.mk (hbox); have n2_ := Aside0.mk ((by rw [hg]; exact (below_size (by exact pB HB.out)) : w.heap.size ≤ gb359)); have n3_ := Aside0.mk ((by rw [hg]; exact (below_size (by exact pB HB.out)) : w.heap.size ≤ gb359)); clear HB; have HB := n0_; have BK359 := n1_; have GW359 := n2_; have GE359 := n3_; clear n0_ n1_ n2_ n3_; clear hb hbox hg) | ((with_reducible refine gate_dst (N := 4) rfl ?_); (try (refine gate_guard (by rfl) ?_; dsimp only)); refine box_event ?hg (N := 4) ?hd (cs := #[.slice none 0 0, .slice none 0 0]) (t := 24) ?hr ?_; (case hd => rfl); (case hg => rfl); (case hr => first | (go_simp; done) | (go_simp; rfl)); intro gb360 hg w6 hbox hb; have n0_ := Aside0.mk (blk_below (g := gb359) (o := .cells #[.slice A0_0 l0_0.length c0_0, .slice A0_1 l0_1.length c0_1] 24 (0, 0)) (by exact pK BK359.out) hb); have n1_ := Aside0.mk (below_step (by exact pB HB.out) hb); have n2_ := Aside0.mk (hbox); have n3_ := Aside0.mk ((by rw [hg]; exact (below_size (by exact pB HB.out)) : w.heap.size ≤ gb360)); have n4_ := Aside0.mk ((by rw [hg]; exact (below_size (by exact pB HB.out)) : w.heap.size ≤ gb360)); have n5_ := Aside0.mk ((by rw [hg]; exact Nat.ne_of_lt (blk_lt (g := gb359) (o := .cells #[.slice A0_0 l0_0.length c0_0, .slice A0_1 l0_1.length c0_1] 24 (0, 0)) (by exact pK BK359.out)) : gb359 ≠ gb360)); have n6_ := Aside0.mk ((by rw [hg]; exact Nat.ne_of_gt (blk_lt (g := gb359) (o := .cells #[.slice A0_0 l0_0.length c0_0, .slice A0_1 l0_1.length c0_1] 24 (0, 0)) (by exact pK BK359.out)) : gb360 ≠ gb359)); clear BK359; clear HB; have BK359 := n0_; have HB := n1_; have BK360 := n2_; have GW360 := n3_; have GE360 := n4_; have NB359_360 := n5_; have NB360_359 := n6_; clear n0_ n1_ n2_ n3_ n4_ n5_ n6_; clear hb hbox hg; have hnb7 := NB359_360.out; have hnc7 := NB360_359.out; have hcz8_0 : w6.cell? ⟨gb359, 0, none⟩ = some (.slice A0_0 l0_0.length c0_0) := (blk_cell BK359.out 0).trans rfl; have hcz8_1 : w6.cell? ⟨gb359, 1, none⟩ = some (.slice A0_1 l0_1.length c0_1) := (blk_cell BK359.out 1).trans rfl; have hfz8_0 := blk_frozen BK359.out 0; have hfz8_1 := blk_frozen BK359.out 1) | ((with_reducible refine gate_callee (f := 19) rfl ?_); refine goesL_ (some 8) rfl rfl Try.func19 (by kernel_rfl) rfl #[.agg #[.slice A0_0 l0_0.length c0_0, .slice A0_1 l0_1.length c0_1]] rfl (by (try simp only [List.map_toArray, List.map_cons, List.map_nil]); first | done | rfl | (simp only [List.length_drop, List.length_take]; rfl)) ?_; (with_reducible refine (customsref33_Read.calls _ _ l0_0 _ _ l0_1 t361 _ ?side1 ?side2 ?side3 ?side4 A3.out).mono ?_); (case side1 => exact pC (Kd.C_below HR0_0.out HB.out)); (case side2 => exact HC0_0.out); (case side3 => exact pC (Kd.C_below HR0_1.out HB.out)); (case side4 => exact HC0_1.out); rintro e w9 ⟨v362, rfl, ho0, hb⟩; refine ⟨_, rfl, ?_⟩; have n0_ := Aside0.mk (Kd.R_lower ho0 (below_size (by exact pB HB.out))); have n1_ := Aside0.mk (blk_below (g := gb360) (o := .cells #[.slice none 0 0, .slice none 0 0] 24 (0, 0)) (by exact pK BK360.out) hb); have n2_ := Aside0.mk (below_step (by exact pB HB.out) hb); clear BK360; clear HB; have HO363 := n0_; have BK360 := n1_; have HB := n2_; clear n0_ n1_ n2_; (try clear hb); (try clear hb2); (try clear hk); (try clear hi); (try clear ho0); have hcz10_0 : w9.cell? ⟨gb360, 0, none⟩ = some (.slice none 0 0) := (blk_cell BK360.out 0).trans rfl; have hcz10_1 : w9.cell? ⟨gb360, 1, none⟩ = some (.slice none 0 0) := (blk_cell BK360.out 1).trans rfl; have hfz10_0 := blk_frozen BK360.out 0; have hfz10_1 := blk_frozen BK360.out 1))
    refine bodyPost_ret (results_ct rfl _ _ gb360 24 #[.slice none 0 0, .slice none 0 0] (0, 0) _ rfl (by (with_reducible repeat (first | refine blk_drewN ?_ _ | refine blk_drew ?_ | refine blk_alloc ?_ _)); refine blk_put (cs := #[.slice none 0 0, .slice none 0 0]) ?_ 1 _ rfl; (with_reducible repeat (first | refine blk_drewN ?_ _ | refine blk_drew ?_ | refine blk_alloc ?_ _)); refine blk_put (cs := #[.slice none 0 0, .slice none 0 0]) ?_ 0 _ rfl; (with_reducible repeat (first | refine blk_drewN ?_ _ | refine blk_drew ?_ | refine blk_alloc ?_ _)); exact BK360.out) Try.underlying24 rfl (by kernel_rfl)) rfl ?_
    exact ⟨_, _, by first | rfl | (simp [errW_none, errW_some] <;> rfl) | (simp [*, errW_none, errW_some] <;> rfl), by first | exact Kd.R_nil _ _ _ _ _ | exact Kd.N_nil _ _ _ _ _ | exact Kd.V_nil _ _ _ _ _ | exact Kd.Q_nil _ _ _ _ _ | exact Kd.S_nil _ _ _ _ _, by first | exact Kd.R_nil _ _ _ _ _ | exact Kd.N_nil _ _ _ _ _ | exact Kd.V_nil _ _ _ _ _ | exact Kd.Q_nil _ _ _ _ _ | exact Kd.S_nil _ _ _ _ _, by repeat (first | (with_reducible first | exact HB.out | apply below_alloc | apply pw_below_drewN | apply below_drew1 | refine below_set ?_ GE360.out) | exact HB.out)⟩
  · rw [if_neg c4] at H
    have c4b0 : decide (a1 < 0) = false := decide_eq_false c4
    clear c4
    by_cases c11 : a1 > (t361.length : Int)
    · rw [if_pos c11] at H
      have c11b0 : decide ((t361.length : Int) < a1) = true := decide_eq_true c11
      clear c11
      simp only [Option.some.injEq, Prod.mk.injEq] at H
      obtain ⟨rfl, rfl, rfl⟩ := H
      go_enter Try.func25, Try.ntmps25
      go_wp2_with (first | ((with_reducible refine gate_dst (N := 2) rfl ?_); (try (refine gate_guard (by rfl) ?_; dsimp only)); refine box_event ?hg (N := 2) ?hd (cs := #[.slice A0_0 l0_0.length c0_0, .slice A0_1 l0_1.length c0_1]) (t := 24) ?hr ?_; (case hd => rfl); (case hg => rfl); (case hr => first | (go_simp; done) | (go_simp; rfl)); intro gb359 hg w12 hbox hb; have n0_ := Aside0.mk (below_step (by exact pB HB.out) hb); have n1_ := Aside0.mk (hbox); have n2_ := Aside0.mk ((by rw [hg]; exact (below_size (by exact pB HB.out)) : w.heap.size ≤ gb359)); have n3_ := Aside0.mk ((by rw [hg]; exact (below_size (by exact pB HB.out)) : w.heap.size ≤ gb359)); clear HB; have HB := n0_; have BK359 := n1_; have GW359 := n2_; have GE359 := n3_; clear n0_ n1_ n2_ n3_; clear hb hbox hg) | ((with_reducible refine gate_dst (N := 4) rfl ?_); (try (refine gate_guard (by rfl) ?_; dsimp only)); refine box_event ?hg (N := 4) ?hd (cs := #[.slice none 0 0, .slice none 0 0]) (t := 24) ?hr ?_; (case hd => rfl); (case hg => rfl); (case hr => first | (go_simp; done) | (go_simp; rfl)); intro gb360 hg w13 hbox hb; have n0_ := Aside0.mk (blk_below (g := gb359) (o := .cells #[.slice A0_0 l0_0.length c0_0, .slice A0_1 l0_1.length c0_1] 24 (0, 0)) (by exact pK BK359.out) hb); have n1_ := Aside0.mk (below_step (by exact pB HB.out) hb); have n2_ := Aside0.mk (hbox); have n3_ := Aside0.mk ((by rw [hg]; exact (below_size (by exact pB HB.out)) : w.heap.size ≤ gb360)); have n4_ := Aside0.mk ((by rw [hg]; exact (below_size (by exact pB HB.out)) : w.heap.size ≤ gb360)); have n5_ := Aside0.mk ((by rw [hg]; exact Nat.ne_of_lt (blk_lt (g := gb359) (o := .cells #[.slice A0_0 l0_0.length c0_0, .slice A0_1 l0_1.length c0_1] 24 (0, 0)) (by exact pK BK359.out)) : gb359 ≠ gb360)); have n6_ := Aside0.mk ((by rw [hg]; exact Nat.ne_of_gt (blk_lt (g := gb359) (o := .cells #[.slice A0_0 l0_0.length c0_0, .slice A0_1 l0_1.length c0_1] 24 (0, 0)) (by exact pK BK359.out)) : gb360 ≠ gb359)); clear BK359; clear HB; have BK359 := n0_; have HB := n1_; have BK360 := n2_; have GW360 := n3_; have GE360 := n4_; have NB359_360 := n5_; have NB360_359 := n6_; clear n0_ n1_ n2_ n3_ n4_ n5_ n6_; clear hb hbox hg; have hnb14 := NB359_360.out; have hnc14 := NB360_359.out; have hcz15_0 : w13.cell? ⟨gb359, 0, none⟩ = some (.slice A0_0 l0_0.length c0_0) := (blk_cell BK359.out 0).trans rfl; have hcz15_1 : w13.cell? ⟨gb359, 1, none⟩ = some (.slice A0_1 l0_1.length c0_1) := (blk_cell BK359.out 1).trans rfl; have hfz15_0 := blk_frozen BK359.out 0; have hfz15_1 := blk_frozen BK359.out 1) | ((with_reducible refine gate_callee (f := 19) rfl ?_); refine goesL_ (some 8) rfl rfl Try.func19 (by kernel_rfl) rfl #[.agg #[.slice A0_0 l0_0.length c0_0, .slice A0_1 l0_1.length c0_1]] rfl (by (try simp only [List.map_toArray, List.map_cons, List.map_nil]); first | done | rfl | (simp only [List.length_drop, List.length_take]; rfl)) ?_; (with_reducible refine (customsref33_Read.calls _ _ l0_0 _ _ l0_1 t361 _ ?side1 ?side2 ?side3 ?side4 A3.out).mono ?_); (case side1 => exact pC (Kd.C_below HR0_0.out HB.out)); (case side2 => exact HC0_0.out); (case side3 => exact pC (Kd.C_below HR0_1.out HB.out)); (case side4 => exact HC0_1.out); rintro e w16 ⟨v362, rfl, ho0, hb⟩; refine ⟨_, rfl, ?_⟩; have n0_ := Aside0.mk (Kd.R_lower ho0 (below_size (by exact pB HB.out))); have n1_ := Aside0.mk (blk_below (g := gb360) (o := .cells #[.slice none 0 0, .slice none 0 0] 24 (0, 0)) (by exact pK BK360.out) hb); have n2_ := Aside0.mk (below_step (by exact pB HB.out) hb); clear BK360; clear HB; have HO363 := n0_; have BK360 := n1_; have HB := n2_; clear n0_ n1_ n2_; (try clear hb); (try clear hb2); (try clear hk); (try clear hi); (try clear ho0); obtain ⟨Ao17, co17, eo17⟩ := Kd.R_slice HO363.out; subst eo17; have hcz18_0 : w16.cell? ⟨gb360, 0, none⟩ = some (.slice none 0 0) := (blk_cell BK360.out 0).trans rfl; have hcz18_1 : w16.cell? ⟨gb360, 1, none⟩ = some (.slice none 0 0) := (blk_cell BK360.out 1).trans rfl; have hfz18_0 := blk_frozen BK360.out 0; have hfz18_1 := blk_frozen BK360.out 1))
      refine bodyPost_ret (results_ct rfl _ _ gb360 24 #[.slice none 0 0, .slice none 0 0] (0, 0) _ rfl (by (with_reducible repeat (first | refine blk_drewN ?_ _ | refine blk_drew ?_ | refine blk_alloc ?_ _)); refine blk_put (cs := #[.slice none 0 0, .slice none 0 0]) ?_ 1 _ rfl; (with_reducible repeat (first | refine blk_drewN ?_ _ | refine blk_drew ?_ | refine blk_alloc ?_ _)); refine blk_put (cs := #[.slice none 0 0, .slice none 0 0]) ?_ 0 _ rfl; (with_reducible repeat (first | refine blk_drewN ?_ _ | refine blk_drew ?_ | refine blk_alloc ?_ _)); exact BK360.out) Try.underlying24 rfl (by kernel_rfl)) rfl ?_
      exact ⟨_, _, by first | rfl | (simp [errW_none, errW_some] <;> rfl) | (simp [*, errW_none, errW_some] <;> rfl), by first | exact Kd.R_nil _ _ _ _ _ | exact Kd.N_nil _ _ _ _ _ | exact Kd.V_nil _ _ _ _ _ | exact Kd.Q_nil _ _ _ _ _ | exact Kd.S_nil _ _ _ _ _, by first | exact Kd.R_nil _ _ _ _ _ | exact Kd.N_nil _ _ _ _ _ | exact Kd.V_nil _ _ _ _ _ | exact Kd.Q_nil _ _ _ _ _ | exact Kd.S_nil _ _ _ _ _, by repeat (first | (with_reducible first | exact HB.out | apply below_alloc | apply pw_below_drewN | apply below_drew1 | refine below_set ?_ GE360.out) | exact HB.out)⟩
    · rw [if_neg c11] at H
      have c11b0 : decide ((t361.length : Int) < a1) = false := decide_eq_false c11
      clear c11
      have c19 : 0 ≤ a1 := by
        refine Classical.byContradiction fun c19 => ?_
        rw [if_neg c19] at H
        exact absurd H (by simp)
      rw [if_pos c19] at H
      have c19b0 := eq_true c19
      have c19b1 : decide (0 ≤ a1) = true := decide_eq_true c19
      clear c19
      have c20 : a1 ≤ (t361.length : Int) := by
        refine Classical.byContradiction fun c20 => ?_
        rw [if_neg c20] at H
        exact absurd H (by simp)
      rw [if_pos c20] at H
      have c20b0 := eq_true c20
      have c20b1 : decide (a1 ≤ (t361.length : Int)) = true := decide_eq_true c20
      clear c20
      obtain ⟨y364, hy364⟩ : ∃ y_ : List Int, y_ = (t361.take (a1 : Int).toNat) := ⟨_, rfl⟩
      replace H : (some (y364, ([] : List Int), 0)) = some (r1, r2, r3) := by first | (rw [hy364]; with_reducible exact H) | (have H2_ := (Option.bind_some _ _).symm.trans H; rw [hy364]; with_reducible exact H2_) | (have H2_ := (Option.bind_some _ _).symm.trans H; with_reducible exact H2_) | with_reducible exact H | (rw [hy364]; exact H) | exact H
      have Ny364 := Aside0.mk hy364
      clear hy364
      simp only [Option.some.injEq, Prod.mk.injEq] at H
      obtain ⟨rfl, rfl, rfl⟩ := H
      go_enter Try.func25, Try.ntmps25
      go_wp2_with (first | ((with_reducible refine gate_dst (N := 2) rfl ?_); (try (refine gate_guard (by rfl) ?_; dsimp only)); refine box_event ?hg (N := 2) ?hd (cs := #[.slice A0_0 l0_0.length c0_0, .slice A0_1 l0_1.length c0_1]) (t := 24) ?hr ?_; (case hd => rfl); (case hg => rfl); (case hr => first | (go_simp; done) | (go_simp; rfl)); intro gb359 hg w21 hbox hb; have n0_ := Aside0.mk (below_step (by exact pB HB.out) hb); have n1_ := Aside0.mk (hbox); have n2_ := Aside0.mk ((by rw [hg]; exact (below_size (by exact pB HB.out)) : w.heap.size ≤ gb359)); have n3_ := Aside0.mk ((by rw [hg]; exact (below_size (by exact pB HB.out)) : w.heap.size ≤ gb359)); clear HB; have HB := n0_; have BK359 := n1_; have GW359 := n2_; have GE359 := n3_; clear n0_ n1_ n2_ n3_; clear hb hbox hg) | ((with_reducible refine gate_dst (N := 4) rfl ?_); (try (refine gate_guard (by rfl) ?_; dsimp only)); refine box_event ?hg (N := 4) ?hd (cs := #[.slice none 0 0, .slice none 0 0]) (t := 24) ?hr ?_; (case hd => rfl); (case hg => rfl); (case hr => first | (go_simp; done) | (go_simp; rfl)); intro gb360 hg w22 hbox hb; have n0_ := Aside0.mk (blk_below (g := gb359) (o := .cells #[.slice A0_0 l0_0.length c0_0, .slice A0_1 l0_1.length c0_1] 24 (0, 0)) (by exact pK BK359.out) hb); have n1_ := Aside0.mk (below_step (by exact pB HB.out) hb); have n2_ := Aside0.mk (hbox); have n3_ := Aside0.mk ((by rw [hg]; exact (below_size (by exact pB HB.out)) : w.heap.size ≤ gb360)); have n4_ := Aside0.mk ((by rw [hg]; exact (below_size (by exact pB HB.out)) : w.heap.size ≤ gb360)); have n5_ := Aside0.mk ((by rw [hg]; exact Nat.ne_of_lt (blk_lt (g := gb359) (o := .cells #[.slice A0_0 l0_0.length c0_0, .slice A0_1 l0_1.length c0_1] 24 (0, 0)) (by exact pK BK359.out)) : gb359 ≠ gb360)); have n6_ := Aside0.mk ((by rw [hg]; exact Nat.ne_of_gt (blk_lt (g := gb359) (o := .cells #[.slice A0_0 l0_0.length c0_0, .slice A0_1 l0_1.length c0_1] 24 (0, 0)) (by exact pK BK359.out)) : gb360 ≠ gb359)); clear BK359; clear HB; have BK359 := n0_; have HB := n1_; have BK360 := n2_; have GW360 := n3_; have GE360 := n4_; have NB359_360 := n5_; have NB360_359 := n6_; clear n0_ n1_ n2_ n3_ n4_ n5_ n6_; clear hb hbox hg; have hnb23 := NB359_360.out; have hnc23 := NB360_359.out; have hcz24_0 : w22.cell? ⟨gb359, 0, none⟩ = some (.slice A0_0 l0_0.length c0_0) := (blk_cell BK359.out 0).trans rfl; have hcz24_1 : w22.cell? ⟨gb359, 1, none⟩ = some (.slice A0_1 l0_1.length c0_1) := (blk_cell BK359.out 1).trans rfl; have hfz24_0 := blk_frozen BK359.out 0; have hfz24_1 := blk_frozen BK359.out 1) | ((with_reducible refine gate_callee (f := 19) rfl ?_); refine goesL_ (some 8) rfl rfl Try.func19 (by kernel_rfl) rfl #[.agg #[.slice A0_0 l0_0.length c0_0, .slice A0_1 l0_1.length c0_1]] rfl (by (try simp only [List.map_toArray, List.map_cons, List.map_nil]); first | done | rfl | (simp only [List.length_drop, List.length_take]; rfl)) ?_; (with_reducible refine (customsref33_Read.calls _ _ l0_0 _ _ l0_1 t361 _ ?side1 ?side2 ?side3 ?side4 A3.out).mono ?_); (case side1 => exact pC (Kd.C_below HR0_0.out HB.out)); (case side2 => exact HC0_0.out); (case side3 => exact pC (Kd.C_below HR0_1.out HB.out)); (case side4 => exact HC0_1.out); rintro e w25 ⟨v362, rfl, ho0, hb⟩; refine ⟨_, rfl, ?_⟩; have n0_ := Aside0.mk (Kd.R_lower ho0 (below_size (by exact pB HB.out))); have n1_ := Aside0.mk (blk_below (g := gb360) (o := .cells #[.slice none 0 0, .slice none 0 0] 24 (0, 0)) (by exact pK BK360.out) hb); have n2_ := Aside0.mk (below_step (by exact pB HB.out) hb); clear BK360; clear HB; have HO363 := n0_; have BK360 := n1_; have HB := n2_; clear n0_ n1_ n2_; (try clear hb); (try clear hb2); (try clear hk); (try clear hi); (try clear ho0); obtain ⟨Ao26, co26, eo26⟩ := Kd.R_slice HO363.out; subst eo26; have q27 : (a1 : Int) ≤ ((t361.length : Int) : Int) := of_decide_eq_true (by first | (with_reducible assumption) | assumption); obtain ⟨i027, hi027, _, hsz27, _⟩ := info_parts info5; have hcut27 := cut_to (P := Try.prog) 22 5 .i64 Try.underlying22 hi027 Ao26 t361.length co26 a1 (of_decide_eq_true (by first | (with_reducible assumption) | assumption)) q27 (Kd.R_reads' HO363.out).2.1; have hr27 := Kd.R_take (m := (a1 : Int).toNat) HO363.out (by omega); have hy27 : y364.length = (a1 : Int).toNat := (by rw [Ny364.out, List.length_take]; omega); rw [← Ny364.out] at hr27; rw [← hy27] at hr27 hcut27; clear hy27 hi027 hsz27 HO363; have HO366 := Aside0.mk hr27; clear hr27; replace q27 := eq_true q27; have hcz28_0 : w25.cell? ⟨gb360, 0, none⟩ = some (.slice none 0 0) := (blk_cell BK360.out 0).trans rfl; have hcz28_1 : w25.cell? ⟨gb360, 1, none⟩ = some (.slice none 0 0) := (blk_cell BK360.out 1).trans rfl; have hfz28_0 := blk_frozen BK360.out 0; have hfz28_1 := blk_frozen BK360.out 1))
      refine bodyPost_ret (results_ct rfl _ _ gb360 24 #[.slice Ao26 y364.length co26, .slice none 0 0] (0, 0) _ rfl (by (with_reducible repeat (first | refine blk_drewN ?_ _ | refine blk_drew ?_ | refine blk_alloc ?_ _)); refine blk_put (cs := #[.slice Ao26 y364.length co26, .slice none 0 0]) ?_ 1 _ rfl; (with_reducible repeat (first | refine blk_drewN ?_ _ | refine blk_drew ?_ | refine blk_alloc ?_ _)); refine blk_put (cs := #[.slice none 0 0, .slice none 0 0]) ?_ 0 _ rfl; (with_reducible repeat (first | refine blk_drewN ?_ _ | refine blk_drew ?_ | refine blk_alloc ?_ _)); exact BK360.out) Try.underlying24 rfl (by kernel_rfl)) rfl ?_
      exact ⟨_, _, by first | rfl | (simp [errW_none, errW_some] <;> rfl) | (simp [*, errW_none, errW_some] <;> rfl), by (with_reducible repeat (first | apply Kd.R_alloc | apply Kd.R_drewN | apply Kd.R_drew)); exact Kd.R_mono (Kd.R_far (p := ⟨gb360, 1, none⟩) (Kd.R_far (p := ⟨gb360, 0, none⟩) (Kd.R_types HO366.out BK360.out (by decide)) (fun _ hk => hk.2) (.slice Ao26 y364.length co26)) (fun _ hk => hk.2) (.slice none 0 0)) (fun _ hk => (by simp [Value.ownBlock])), by first | exact Kd.R_nil _ _ _ _ _ | exact Kd.N_nil _ _ _ _ _ | exact Kd.V_nil _ _ _ _ _ | exact Kd.Q_nil _ _ _ _ _ | exact Kd.S_nil _ _ _ _ _, by repeat (first | (with_reducible first | exact HB.out | apply below_alloc | apply pw_below_drewN | apply below_drew1 | refine below_set ?_ GE360.out) | exact HB.out)⟩

end Go.Proofs.Ythnlepmfjhhgfaa.PJournalOpen
