-- Printed by a patched copy of the kit's printer (wip/prt); nothing here is trusted, Lean checks it.
import Derived.Test.YthnlepmfjhhgfaaPDiskPrefixx0
import Derived.Test.YthnlepmfjhhgfaaPDiskPrefixx1
import Derived.Test.YthnlepmfjhhgfaaPDiskPrefixx3
namespace Go.Proofs.Ythnlepmfjhhgfaa.PDiskPrefix
open Go.RowKit Go.Proofs.YthnlepmfjhhgfaaW.PrintWords Go.Proofs.YthnlepmfjhhgfaaW.PrintLast Go.Proofs.YthnlepmfjhhgfaaW.PrintMore
attribute [local go_sem] max2_int min2_int max_two min_two max_three min_three max_four min_four   -- for this text's walks alone
set_option linter.unusedVariables false
set_option linter.unusedSimpArgs false

/-! ### customslaw33_DiskPrefix: function 4 -/
mutual
def customslaw33_DiskPrefix.l0 : Nat → List (List Int) → List Bool → Int → List Int → Int → Int → List Int → List Int → Option (Bool)
  | 0, _, _, _, _, _, _, _, _ => none
  | k + 1, x0, x1, x2, x8, x9, x10, x181000, x181001 => if x10 < (x0.length : Int) then (customslaw33_DiskPrefix.j1 k x0 x1 x2 x8 x9 x10 (decide (x10 < 30)) x181000 x181001) else (customslaw33_DiskPrefix.j1 k x0 x1 x2 x8 x9 x10 false x181000 x181001)
def customslaw33_DiskPrefix.j1 : Nat → List (List Int) → List Bool → Int → List Int → Int → Int → Bool → List Int → List Int → Option (Bool)
  | 0, _, _, _, _, _, _, _, _, _ => none
  | k + 1, x0, x1, x2, x8, x9, x10, x22, x181000, x181001 => if x22 = true then (if 0 ≤ x10 then (if x10 < (x0.length : Int) then (if ((rd_L1 x0 x10).length : Int) > 1000 then (if 1000 ≤ ((rd_L1 x0 x10).length : Int) then (customslaw33_DiskPrefix.j2 k x0 x1 x2 x8 x9 x10 ((rd_L1 x0 x10).take 1000) x181000 x181001) else (none)) else (customslaw33_DiskPrefix.j2 k x0 x1 x2 x8 x9 x10 (rd_L1 x0 x10) x181000 x181001)) else (none)) else (none)) else ((disk_Crash.f x181000 x181001 x2).bind fun bt205 => ((disk_Read.f bt205.1 bt205.2).bind fun t211 => (if (t211.length : Int) ≥ x9 then (if (t211.length : Int) ≤ (x8.length : Int) then (if 0 ≤ (t211.length : Int) then (if (strOfNums t211).toList = (strOfNums (x8.take ((t211.length : Int) : Int).toNat)).toList then ((disk_Read.f x181000 x181001).bind fun t219 => (if (strOfNums t219).toList = (strOfNums x8).toList then ((customslaw33_awake.f).bind fun t222 => (some t222)) else (some false))) else (some false)) else (none)) else (some false)) else (some false))))
def customslaw33_DiskPrefix.j2 : Nat → List (List Int) → List Bool → Int → List Int → Int → Int → List Int → List Int → List Int → Option (Bool)
  | 0, _, _, _, _, _, _, _, _, _ => none
  | k + 1, x0, x1, x2, x8, x9, x10, x11, x181000, x181001 => (disk_Write.f x181000 x181001 x11).bind fun bt187 => (if bt187.2.2 = 0 then (if x8.length + x11.length < 140737488355328 then ((some (x8 ++ x11 : List Int)).bind fun y195 => (if x10 < (x1.length : Int) then (if 0 ≤ x10 then (if rdOf false x1 x10 = true then ((disk_Sync.f bt187.1 bt187.2.1).bind fun bt199 => (customslaw33_DiskPrefix.l0 k x0 x1 x2 y195 (y195.length : Int) (wrap64 (x10 + 1)) bt199.1 bt199.2)) else (customslaw33_DiskPrefix.l0 k x0 x1 x2 y195 x9 (wrap64 (x10 + 1)) bt187.1 bt187.2.1)) else (none)) else (customslaw33_DiskPrefix.l0 k x0 x1 x2 y195 x9 (wrap64 (x10 + 1)) bt187.1 bt187.2.1))) else (none)) else (some false))
end
def customslaw33_DiskPrefix.f (k : Nat) (l0 : List (List Int)) (l1 : List Bool) (a2 : Int) : Option (Bool) := customslaw33_DiskPrefix.l0 k l0 l1 a2 ([] : List Int) 0 0 ([] : List Int) ([] : List Int)
theorem customslaw33_DiskPrefix.mono_l : ∀ k, (∀ y0 y1 y2 y3 y4 y5 y6 y7, LeO (customslaw33_DiskPrefix.l0 k y0 y1 y2 y3 y4 y5 y6 y7) (customslaw33_DiskPrefix.l0 (k + 1) y0 y1 y2 y3 y4 y5 y6 y7)) ∧ (∀ y0 y1 y2 y3 y4 y5 y6 y7 y8, LeO (customslaw33_DiskPrefix.j1 k y0 y1 y2 y3 y4 y5 y6 y7 y8) (customslaw33_DiskPrefix.j1 (k + 1) y0 y1 y2 y3 y4 y5 y6 y7 y8)) ∧ (∀ y0 y1 y2 y3 y4 y5 y6 y7 y8, LeO (customslaw33_DiskPrefix.j2 k y0 y1 y2 y3 y4 y5 y6 y7 y8) (customslaw33_DiskPrefix.j2 (k + 1) y0 y1 y2 y3 y4 y5 y6 y7 y8))
  | 0 => ⟨fun _ _ _ _ _ _ _ _ r h => by simp [customslaw33_DiskPrefix.l0] at h, fun _ _ _ _ _ _ _ _ _ r h => by simp [customslaw33_DiskPrefix.j1] at h, fun _ _ _ _ _ _ _ _ _ r h => by simp [customslaw33_DiskPrefix.j2] at h⟩
  | k + 1 => by
    obtain ⟨ih0, ih1, ih2⟩ := customslaw33_DiskPrefix.mono_l k
    refine ⟨?_, ?_, ?_⟩
    · intro y0 y1 y2 y3 y4 y5 y6 y7
      unfold customslaw33_DiskPrefix.l0
      repeat' first
      | (with_reducible exact ih0 _ _ _ _ _ _ _ _)
      | (with_reducible exact ih1 _ _ _ _ _ _ _ _ _)
      | (with_reducible exact ih2 _ _ _ _ _ _ _ _ _)
      | (with_reducible exact LeO.refl _)
      | (with_reducible exact LeO.none _)
      | (with_reducible refine LeO.ite ?_ ?_)
      | (with_reducible refine LeO.bind ?_ (fun _ => ?_))
      | exact ih0 _ _ _ _ _ _ _ _
      | exact ih1 _ _ _ _ _ _ _ _ _
      | exact ih2 _ _ _ _ _ _ _ _ _
      | exact LeO.none _
      | refine LeO.ite ?_ ?_
      | refine LeO.bind ?_ (fun _ => ?_)
    · intro y0 y1 y2 y3 y4 y5 y6 y7 y8
      unfold customslaw33_DiskPrefix.j1
      repeat' first
      | (with_reducible exact ih0 _ _ _ _ _ _ _ _)
      | (with_reducible exact ih1 _ _ _ _ _ _ _ _ _)
      | (with_reducible exact ih2 _ _ _ _ _ _ _ _ _)
      | (with_reducible exact LeO.refl _)
      | (with_reducible exact LeO.none _)
      | (with_reducible refine LeO.ite ?_ ?_)
      | (with_reducible refine LeO.bind ?_ (fun _ => ?_))
      | exact ih0 _ _ _ _ _ _ _ _
      | exact ih1 _ _ _ _ _ _ _ _ _
      | exact ih2 _ _ _ _ _ _ _ _ _
      | exact LeO.none _
      | refine LeO.ite ?_ ?_
      | refine LeO.bind ?_ (fun _ => ?_)
    · intro y0 y1 y2 y3 y4 y5 y6 y7 y8
      unfold customslaw33_DiskPrefix.j2
      repeat' first
      | (with_reducible exact ih0 _ _ _ _ _ _ _ _)
      | (with_reducible exact ih1 _ _ _ _ _ _ _ _ _)
      | (with_reducible exact ih2 _ _ _ _ _ _ _ _ _)
      | (with_reducible exact LeO.refl _)
      | (with_reducible exact LeO.none _)
      | (with_reducible refine LeO.ite ?_ ?_)
      | (with_reducible refine LeO.bind ?_ (fun _ => ?_))
      | exact ih0 _ _ _ _ _ _ _ _
      | exact ih1 _ _ _ _ _ _ _ _ _
      | exact ih2 _ _ _ _ _ _ _ _ _
      | exact LeO.none _
      | refine LeO.ite ?_ ?_
      | refine LeO.bind ?_ (fun _ => ?_)
theorem customslaw33_DiskPrefix.mono : ∀ a0 a1 a2 k, LeO (customslaw33_DiskPrefix.f k a0 a1 a2) (customslaw33_DiskPrefix.f (k + 1) a0 a1 a2) := by
  intro a0 a1 a2 k
  obtain ⟨ih0, ih1, ih2⟩ := customslaw33_DiskPrefix.mono_l k
  unfold customslaw33_DiskPrefix.f
  repeat' first
      | (with_reducible exact ih0 _ _ _ _ _ _ _ _)
      | (with_reducible exact ih1 _ _ _ _ _ _ _ _ _)
      | (with_reducible exact ih2 _ _ _ _ _ _ _ _ _)
      | (with_reducible exact LeO.refl _)
      | (with_reducible exact LeO.none _)
      | (with_reducible refine LeO.ite ?_ ?_)
      | (with_reducible refine LeO.bind ?_ (fun _ => ?_))
      | exact ih0 _ _ _ _ _ _ _ _
      | exact ih1 _ _ _ _ _ _ _ _ _
      | exact ih2 _ _ _ _ _ _ _ _ _
      | exact LeO.none _
      | refine LeO.ite ?_ ?_
      | refine LeO.bind ?_ (fun _ => ?_)
def customslaw33_DiskPrefix.T19 : Bool × List (List Nat × List Nat) := (true, [([], []), ([0], [0]), ([], []), ([1, 2], [1, 2]), ([3], [3]), ([4], [4]), ([5, 4], [4, 5]), ([4], [4]), ([7, 4], [4, 7]), ([6, 8, 4], [4, 6, 8]), ([4, 9], [4, 9]), ([10, 4], [10]), ([11], [11]), ([12, 11], [11, 12]), ([11], [11]), ([11], [11]), ([15, 11], [11, 15]), ([14, 16, 11], [11, 14, 16]), ([17, 11], [11, 17]), ([13, 18, 11], [11, 13, 18]), ([11, 19], [11, 19]), ([20, 11], [20]), ([21], [21]), ([22, 21, 21], [21, 22]), ([23, 21], [21, 23]), ([21], [21]), ([25, 21], [21, 25]), ([24, 26, 21], [21, 24, 26]), ([21, 27], [21, 27]), ([28, 23], [28]), ([29, 29], [29]), ([29, 30], [29, 30]), ([31, 30, 0, 1, 2, 3, 4, 5, 6, 7, 8, 9, 10, 11, 12, 13, 14, 15, 16, 17, 18, 19, 20, 21, 22, 23, 24, 25, 26, 27, 28, 29, 30, 31], [31])])
def customslaw33_DiskPrefix.B19 : List Nat := [0, 1, 0, 7, 15, 31, 63, 31, 159, 511, 1023, 2047, 4095, 8191, 4095, 4095, 36863, 118783, 249855, 524287, 1048575, 2097151, 4194303, 8388607, 16777215, 4194303, 37748735, 134217727, 268435455, 536870911, 1073741823, 2147483647, 4294967295]
theorem customslaw33_DiskPrefix.tab19 : rtab .any (opsOf Try.f4 19) = customslaw33_DiskPrefix.T19 := by kernel_rfl
theorem customslaw33_DiskPrefix.bits19 : waitsOk customslaw33_DiskPrefix.T19.2 customslaw33_DiskPrefix.B19 = true := by kernel_rfl
set_option maxHeartbeats 8000000 in
set_option maxRecDepth 100000 in
theorem customslaw33_DiskPrefix.calls (k : Nat) (P0_ : Nat → Prop) (A0 : Option Addr) (c0 : Nat) (l0 : List (List Int)) (A1 : Option Addr) (c1 : Nat) (l1 : List Bool) (a2 : Int) (w : World) (hs0 : Kd.V (Kd.slice 5 (Kd.int .u8)) 22 w w.heap.size (fun k_ => P0_ k_) (.slice A0 l0.length c0) l0) (hr1 : Kd.C Kd.bool w A1 l1.length l1) (hc1 : l1.length ≤ c1) (h : customslaw33_DiskPrefix.f k l0 l1 a2 = some true) :
    Calls Try.prog 4 #[.slice A0 l0.length c0, .slice A1 l1.length c1, .int .i64 a2] w fun e w' => e = .returned (.bool true) ∧ Below w.heap.size w w' := by
  have hu24 := Try.underlying24
  have HO0 := Aside0.mk (show Kd.V (Kd.slice 5 (Kd.int .u8)) 22 w w.heap.size (fun k_ => (P0_ k_ ∨ w.heap.size ≤ k_)) (.slice A0 l0.length c0) l0 from Kd.V_mono hs0 (fun k_ hk => .inl hk))
  have HR1 := Aside0.mk hr1
  have HC1 := Aside0.mk hc1
  clear hr1 hc1
  have HB := Aside0.mk (Below.refl w.heap.size w)
  have H : (customslaw33_DiskPrefix.l0 k l0 l1 a2 ([] : List Int) 0 0 ([] : List Int) ([] : List Int)) = some true := h
  clear h
  have H' := Aside0.mk H
  clear H
  go_enter Try.func4, Try.ntmps4
  go_wp2_with (first | ((with_reducible refine gate_dst (N := 7) rfl ?_); (try (refine gate_guard (by rfl) ?_; dsimp only)); refine box_event ?hg (N := 7) ?hd (cs := #[.slice none 0 0, .slice none 0 0]) (t := 24) ?hr ?_; (case hd => rfl); (case hg => rfl); (case hr => first | (go_simp; done) | (go_simp; rfl)); intro gb180 hg w4 hbox hb; have n0_ := Aside0.mk (Kd.V_below (Kd.V_elderB (by exact pV HO0.out) gb180 (Nat.le_of_eq hg.symm)) hb); have n1_ := Aside0.mk (below_step (by exact pB HB.out) hb); have n2_ := Aside0.mk (hbox); have n3_ := Aside0.mk ((by rw [hg]; exact (below_size (by exact pB HB.out)) : w.heap.size ≤ gb180)); have n4_ := Aside0.mk ((by rw [hg]; exact (below_size (by exact pB HB.out)) : w.heap.size ≤ gb180)); clear HO0; clear HB; have HO0 := n0_; have HB := n1_; have BK180 := n2_; have GW180 := n3_; have GE180 := n4_; clear n0_ n1_ n2_ n3_ n4_; clear hb hbox hg))
  go_loopg [8, 9, 10] k (fun kq v8 v9 v10 w' => ∃ (x8_1 : List Int) (x9_1 : Int) (x10_1 : Int) (x181000_1 : List Int) (x181001_1 : List Int) (u181000 : Value) (u181001 : Value), v9 = .int .i64 x9_1 ∧ v10 = .int .i64 x10_1 ∧ Aside0 (customslaw33_DiskPrefix.l0 kq l0 l1 a2 x8_1 x9_1 x10_1 x181000_1 x181001_1 = some true) ∧ Aside0 (kq ≤ k) ∧ Aside0 (Kd.V (Kd.slice 5 (Kd.int .u8)) 22 w' w.heap.size (fun k_ => (P0_ k_ ∨ w.heap.size ≤ k_) ∧ some k_ ≠ (v8 : Value).ownBlock ∧ some k_ ≠ (u181000 : Value).ownBlock ∧ some k_ ≠ (u181001 : Value).ownBlock ∧ k_ ≠ gb180) (.slice A0 l0.length c0) l0) ∧ Aside0 (Kd.R (Kd.int .u8) 5 w' w.heap.size (fun k_ => (w.heap.size ≤ k_) ∧ some k_ ≠ (u181000 : Value).ownBlock ∧ some k_ ≠ (u181001 : Value).ownBlock) v8 x8_1) ∧ Aside0 (Kd.R (Kd.int .u8) 5 w' w.heap.size (fun k_ => (w.heap.size ≤ k_) ∧ some k_ ≠ (v8 : Value).ownBlock ∧ some k_ ≠ (u181001 : Value).ownBlock) u181000 x181000_1) ∧ Aside0 (Kd.R (Kd.int .u8) 5 w' w.heap.size (fun k_ => (w.heap.size ≤ k_) ∧ some k_ ≠ (v8 : Value).ownBlock ∧ some k_ ≠ (u181000 : Value).ownBlock) u181001 x181001_1) ∧ Aside0 (w'.heap[gb180]? = some (.cells #[u181000, u181001] 24 (0, 0))) ∧ Aside0 (Below w.heap.size w w'))
  case atStart => exact ⟨(([] : List Int)), (0), (0), (([] : List Int)), (([] : List Int)), (.slice none 0 0), (.slice none 0 0), (by first | rfl | (simp; done) | (simp [*]; done)), (by first | rfl | (simp; done) | (simp [*]; done)), H', ⟨Nat.le_refl _⟩, ⟨by exact pV (Kd.V_mono HO0.out (fun _ hk => ⟨hk.1, ⟨(by simp [Value.ownBlock]), ⟨(by simp [Value.ownBlock]), ⟨(by simp [Value.ownBlock]), hk.2⟩⟩⟩⟩))⟩, ⟨by first | exact Kd.R_nil _ _ _ _ _ | exact Kd.N_nil _ _ _ _ _ | exact Kd.V_nil _ _ _ _ _ | exact Kd.Q_nil _ _ _ _ _ | exact Kd.S_nil _ _ _ _ _⟩, ⟨by first | exact Kd.R_nil _ _ _ _ _ | exact Kd.N_nil _ _ _ _ _ | exact Kd.V_nil _ _ _ _ _ | exact Kd.Q_nil _ _ _ _ _ | exact Kd.S_nil _ _ _ _ _⟩, ⟨by first | exact Kd.R_nil _ _ _ _ _ | exact Kd.N_nil _ _ _ _ _ | exact Kd.V_nil _ _ _ _ _ | exact Kd.Q_nil _ _ _ _ _ | exact Kd.S_nil _ _ _ _ _⟩, ⟨by exact pK BK180.out⟩, ⟨by exact pB HB.out⟩⟩
  case round =>
    clear H'
    try clear c1
    try clear p2
    try clear c4
    obtain ⟨x8_1, x9_1, x10_1, x181000_1, x181001_1, u181000, u181001, rfl, rfl, HA, HK1, HO_0, HO_8, HO_181000, HO_181001, BK180, HB⟩ := hrel
    cases gk with
    | zero => exact absurd HA.out (by simp [customslaw33_DiskPrefix.l0])
    | succ k1 =>
      have H := HA.out
      clear HA
      simp only [customslaw33_DiskPrefix.l0] at H
      have HC5 := Aside0.mk H
      clear H
      go_upto_region 5 with (fail)
      go_cut [22] (fun v22 wc => ∃ (kq : Nat) (x22_4 : Bool), v22 = .bool x22_4 ∧ Aside0 (customslaw33_DiskPrefix.j1 kq l0 l1 a2 x8_1 x9_1 x10_1 x22_4 x181000_1 x181001_1 = some true) ∧ Aside0 (kq ≤ k1) ∧ Aside0 (Kd.V (Kd.slice 5 (Kd.int .u8)) 22 wc w.heap.size (fun k_ => (P0_ k_ ∨ w.heap.size ≤ k_) ∧ some k_ ≠ (u8 : Value).ownBlock ∧ some k_ ≠ (u181000 : Value).ownBlock ∧ some k_ ≠ (u181001 : Value).ownBlock ∧ k_ ≠ gb180) (.slice A0 l0.length c0) l0) ∧ Aside0 (Kd.R (Kd.int .u8) 5 wc w.heap.size (fun k_ => (w.heap.size ≤ k_) ∧ some k_ ≠ (u181000 : Value).ownBlock ∧ some k_ ≠ (u181001 : Value).ownBlock) u8 x8_1) ∧ Aside0 (Kd.R (Kd.int .u8) 5 wc w.heap.size (fun k_ => (w.heap.size ≤ k_) ∧ some k_ ≠ (u8 : Value).ownBlock ∧ some k_ ≠ (u181001 : Value).ownBlock) u181000 x181000_1) ∧ Aside0 (Kd.R (Kd.int .u8) 5 wc w.heap.size (fun k_ => (w.heap.size ≤ k_) ∧ some k_ ≠ (u8 : Value).ownBlock ∧ some k_ ≠ (u181000 : Value).ownBlock) u181001 x181001_1) ∧ Aside0 (wc.heap[gb180]? = some (.cells #[u181000, u181001] 24 (0, 0))) ∧ Aside0 (Below w.heap.size w wc))
      case first =>
        have H := HC5.out
        clear HC5
        by_cases c6 : x10_1 < (l0.length : Int)
        · rw [if_pos c6] at H
          have c6b0 : decide (x10_1 < (l0.length : Int)) = true := decide_eq_true c6
          clear c6
          (first | rw [c6b0] | (simp only [i64_w, i32_w]; rw [c6b0]) | skip)
          have H' := Aside0.mk H
          clear H
          go_wp2
          go_meet
          case rel => exact ⟨_, (decide (x10_1 < 30)), (by first | rfl | (simp; done) | (simp [*]; done)), H', ⟨by have := HK1.out; first | omega | exact Nat.le_refl _⟩, ⟨by exact pV HO_0.out⟩, ⟨by exact pR HO_8.out⟩, ⟨by exact pR HO_181000.out⟩, ⟨by exact pR HO_181001.out⟩, ⟨by exact pK BK180.out⟩, ⟨by exact pB HB.out⟩⟩
        · rw [if_neg c6] at H
          have c6b0 : decide (x10_1 < (l0.length : Int)) = false := decide_eq_false c6
          clear c6
          (first | rw [c6b0] | (simp only [i64_w, i32_w]; rw [c6b0]) | skip)
          have H' := Aside0.mk H
          clear H
          go_wp2
          go_meet
          case rel => exact ⟨_, (false), (by first | rfl | (simp; done) | (simp [*]; done)), H', ⟨by have := HK1.out; first | omega | exact Nat.le_refl _⟩, ⟨by exact pV HO_0.out⟩, ⟨by exact pR HO_8.out⟩, ⟨by exact pR HO_181000.out⟩, ⟨by exact pR HO_181001.out⟩, ⟨by exact pK BK180.out⟩, ⟨by exact pB HB.out⟩⟩
      case rest =>
        clear HC5
        try clear c1
        try clear p2
        try clear c4
        try clear c6
        try clear c6b0
        try clear p2
        obtain ⟨kq, x22_4, rfl, HA, HJ4, HO_0, HO_8, HO_181000, HO_181001, BK180, HB⟩ := hcut
        cases kq with
        | zero => exact absurd HA.out (by simp [customslaw33_DiskPrefix.j1])
        | succ kj4 =>
          have H := HA.out
          clear HA
          simp only [customslaw33_DiskPrefix.j1] at H
          by_cases c7 : x22_4 = true
          · subst c7
            have H1 : (if 0 ≤ x10_1 then (if x10_1 < (l0.length : Int) then (if ((rd_L1 l0 x10_1).length : Int) > 1000 then (if 1000 ≤ ((rd_L1 l0 x10_1).length : Int) then (customslaw33_DiskPrefix.j2 kj4 l0 l1 a2 x8_1 x9_1 x10_1 ((rd_L1 l0 x10_1).take 1000) x181000_1 x181001_1) else (none)) else (customslaw33_DiskPrefix.j2 kj4 l0 l1 a2 x8_1 x9_1 x10_1 (rd_L1 l0 x10_1) x181000_1 x181001_1)) else (none)) else (none)) = some true := by rw [if_pos rfl] at H; exact H
            clear H
            have H := H1
            clear H1
            have c8 : 0 ≤ x10_1 := by
              refine Classical.byContradiction fun c8 => ?_
              rw [if_neg c8] at H
              exact absurd H (by simp)
            rw [if_pos c8] at H
            have c8b0 : decide (0 ≤ x10_1) = true := decide_eq_true c8
            clear c8
            have c9 : x10_1 < (l0.length : Int) := by
              refine Classical.byContradiction fun c9 => ?_
              rw [if_neg c9] at H
              exact absurd H (by simp)
            rw [if_pos c9] at H
            have c9b0 : decide (x10_1 < (l0.length : Int)) = true := decide_eq_true c9
            clear c9
            have HC10 := Aside0.mk H
            clear H
            have p181 : 0 ≤ (x10_1 : Int) := of_decide_eq_true (by first | (with_reducible assumption) | assumption)
            have q181 : x10_1 < (l0.length : Int) := of_decide_eq_true (by first | (with_reducible assumption) | assumption)
            obtain ⟨ad181, A181_0, c181_0, e181, hx181_0, hl181_0, hi181_0⟩ := at_L1 (Kd.V_reads' HO_0.out).2.2 x10_1 p181 q181
            cases e181
            obtain ⟨ce181, hce181, hMe181, hcc181⟩ := Kd.V_get HO_0.out [] x10_1 p181 (by first | exact q181 | exact of_decide_eq_true (by first | (with_reducible assumption) | assumption) | (have e_ := (Kd.V_reads' HO_0.out).1; omega))
            obtain ⟨ua181_0, uc181_0, rfl, ul181_0, ge181_0⟩ := Kd.FK_slice_open hMe181
            have hv181_0 := hcc181 0 _ rfl
            rw [Nat.add_zero, show ((Kd.slice 5 (Kd.int .u8))).sz = 1 from rfl, Nat.mul_one] at hv181_0
            replace hv181_0 := Option.some.inj (hv181_0.symm.trans hx181_0)
            injection hv181_0 with hva_ hvn_ hvc_
            rw [hva_] at ge181_0
            rw [hvc_] at ul181_0
            have HL181_0 := Aside0.mk (show Kd.V (Kd.int .u8) 5 _ w.heap.size _ _ (rd_L1 l0 x10_1) from Kd.V_mk ul181_0 ge181_0)
            clear hva_ hvn_ hvc_ ge181_0 ul181_0
            clear hcc181 hce181
            have HR181_0 := Aside0.mk hi181_0
            have HC181_0 := Aside0.mk hl181_0
            clear hi181_0 hl181_0
            replace p181 := eq_true p181
            replace q181 := eq_true q181
            go_upto_if 31 with (fail)
            go_cut [11] (fun v11 wc => ∃ (kq : Nat) (x11_9 : List Int), Aside0 (customslaw33_DiskPrefix.j2 kq l0 l1 a2 x8_1 x9_1 x10_1 x11_9 x181000_1 x181001_1 = some true) ∧ Aside0 (kq ≤ kj4) ∧ Aside0 (Kd.V (Kd.slice 5 (Kd.int .u8)) 22 wc w.heap.size (fun k_ => (P0_ k_ ∨ w.heap.size ≤ k_) ∧ some k_ ≠ (u8 : Value).ownBlock ∧ some k_ ≠ (u181000 : Value).ownBlock ∧ some k_ ≠ (u181001 : Value).ownBlock ∧ k_ ≠ gb180) (.slice (some ad181) l0.length c0) l0) ∧ Aside0 (Kd.R (Kd.int .u8) 5 wc w.heap.size (fun k_ => (w.heap.size ≤ k_) ∧ some k_ ≠ (u181000 : Value).ownBlock ∧ some k_ ≠ (u181001 : Value).ownBlock) u8 x8_1) ∧ Aside0 (Kd.V (Kd.int .u8) 5 wc w.heap.size (fun k_ => (P0_ k_ ∨ w.heap.size ≤ k_) ∧ some k_ ≠ (u8 : Value).ownBlock ∧ some k_ ≠ (u181000 : Value).ownBlock ∧ some k_ ≠ (u181001 : Value).ownBlock ∧ k_ ≠ gb180) v11 x11_9) ∧ Aside0 (Kd.R (Kd.int .u8) 5 wc w.heap.size (fun k_ => (w.heap.size ≤ k_) ∧ some k_ ≠ (u8 : Value).ownBlock ∧ some k_ ≠ (u181001 : Value).ownBlock) u181000 x181000_1) ∧ Aside0 (Kd.R (Kd.int .u8) 5 wc w.heap.size (fun k_ => (w.heap.size ≤ k_) ∧ some k_ ≠ (u8 : Value).ownBlock ∧ some k_ ≠ (u181000 : Value).ownBlock) u181001 x181001_1) ∧ Aside0 (wc.heap[gb180]? = some (.cells #[u181000, u181001] 24 (0, 0))) ∧ Aside0 (Kd.C (Kd.int .u8) wc A181_0 (rd_L1 l0 x10_1).length (rd_L1 l0 x10_1)) ∧ Aside0 (Below w.heap.size w wc))
            case first =>
              have H := HC10.out
              clear HC10
              by_cases c11 : ((rd_L1 l0 x10_1).length : Int) > 1000
              · rw [if_pos c11] at H
                have c11b0 : decide (1000 < ((rd_L1 l0 x10_1).length : Int)) = true := decide_eq_true c11
                have c11b1 : decide (1000 < (rd_L1 l0 x10_1).length) = true := decide_eq_true (by omega)
                clear c11
                (first | rw [c11b0] | (simp only [i64_w, i32_w]; rw [c11b0]) | skip)
                have c12 : 1000 ≤ ((rd_L1 l0 x10_1).length : Int) := by
                  refine Classical.byContradiction fun c12 => ?_
                  rw [if_neg c12] at H
                  exact absurd H (by simp)
                rw [if_pos c12] at H
                have c12b0 := eq_true c12
                have c12b1 : decide (1000 ≤ ((rd_L1 l0 x10_1).length : Int)) = true := decide_eq_true c12
                clear c12
                obtain ⟨y182, hy182⟩ : ∃ y_ : List Int, y_ = ((rd_L1 l0 x10_1).take 1000) := ⟨_, rfl⟩
                replace H : (customslaw33_DiskPrefix.j2 kj4 l0 l1 a2 x8_1 x9_1 x10_1 y182 x181000_1 x181001_1) = some true := by first | (rw [hy182]; with_reducible exact H) | (have H2_ := (Option.bind_some _ _).symm.trans H; rw [hy182]; with_reducible exact H2_) | (have H2_ := (Option.bind_some _ _).symm.trans H; with_reducible exact H2_) | with_reducible exact H | (rw [hy182]; exact H) | exact H
                have Ny182 := Aside0.mk hy182
                clear hy182
                have H' := Aside0.mk H
                clear H
                have q13 : (1000 : Int) ≤ (((rd_L1 l0 x10_1).length : Int) : Int) := of_decide_eq_true (by first | (with_reducible assumption) | assumption)
                obtain ⟨i013, hi013, _, hsz13, _⟩ := info_parts info5
                have hroom13 : (rd_L1 l0 x10_1).length ≤ c181_0 := HC181_0.out
                have hC13 : Kd.F (Kd.int .u8) _ _ A181_0 (rd_L1 l0 x10_1).length (rd_L1 l0 x10_1) := (Kd.V_at (base := w.heap.size) HL181_0.out).2.2
                have hcut13 := cut_to (P := Try.prog) 22 5 .i64 Try.underlying22 hi013 A181_0 (rd_L1 l0 x10_1).length c181_0 1000 (by omega) q13 hroom13
                have hr13 := Kd.F_take (m := 1000) hC13 (by omega)
                have hy13 : y182.length = (1000 : Int).toNat := (by rw [Ny182.out, List.length_take]; omega)
                rw [← Ny182.out] at hr13
                rw [← hy13] at hcut13
                have HO186 := Aside0.mk (show Kd.V (Kd.int .u8) 5 _ w.heap.size _ (.slice A181_0 y182.length c181_0) y182 from Kd.V_mk (by omega) hr13)
                have HC186 := Aside0.mk (show y182.length ≤ c181_0 from by omega)
                clear hr13 hC13 hroom13 hi013 hsz13
                have KY13 := Aside0.mk hy13
                clear hy13
                replace q13 := eq_true q13
                go_wp2
                go_meet
                case rel => exact ⟨_, (y182), H', ⟨by have := HK1.out; have := HJ4.out; first | omega | exact Nat.le_refl _⟩, ⟨by exact pV HO_0.out⟩, ⟨by exact pR HO_8.out⟩, ⟨by exact pV HO186.out⟩, ⟨by exact pR HO_181000.out⟩, ⟨by exact pR HO_181001.out⟩, ⟨by exact pK BK180.out⟩, ⟨by exact pC HR181_0.out⟩, ⟨by exact pB HB.out⟩⟩
              · rw [if_neg c11] at H
                have c11b0 : decide (1000 < ((rd_L1 l0 x10_1).length : Int)) = false := decide_eq_false c11
                have c11b1 : decide (1000 < (rd_L1 l0 x10_1).length) = false := decide_eq_false (by omega)
                clear c11
                (first | rw [c11b0] | (simp only [i64_w, i32_w]; rw [c11b0]) | skip)
                have H' := Aside0.mk H
                clear H
                go_wp2
                go_meet
                case rel => exact ⟨_, (rd_L1 l0 x10_1), H', ⟨by have := HK1.out; have := HJ4.out; first | omega | exact Nat.le_refl _⟩, ⟨by exact pV HO_0.out⟩, ⟨by exact pR HO_8.out⟩, ⟨by exact pV HL181_0.out⟩, ⟨by exact pR HO_181000.out⟩, ⟨by exact pR HO_181001.out⟩, ⟨by exact pK BK180.out⟩, ⟨by exact pC HR181_0.out⟩, ⟨by exact pB HB.out⟩⟩
            case rest =>
              clear HC10
              try clear c1
              try clear p1
              try clear q1
              try clear hx1
              try clear p2
              try clear c4
              try clear c6
              try clear c6b0
              try clear c7
              try clear c8
              try clear c8b0
              try clear c9
              try clear c9b0
              try clear c11
              try clear c11b0
              try clear c11b1
              try clear c12
              try clear c12b0
              try clear c12b1
              try clear q13
              try clear hx181_0
              try clear p181
              try clear p2
              try clear q13
              try clear q181
              obtain ⟨kq, x11_9, HA, HJ9, HO_0, HO_8, HO_11, HO_181000, HO_181001, BK180, HR181_0, HB⟩ := hcut
              cases kq with
              | zero => exact absurd HA.out (by simp [customslaw33_DiskPrefix.j2])
              | succ kj9 =>
                have H := HA.out
                clear HA
                simp only [customslaw33_DiskPrefix.j2] at H
                replace H := Option.bind_eq_some_iff.mp H
                obtain ⟨⟨t187, t190, t193⟩, A140, H⟩ := H
                replace H : (if t193 = 0 then (if x8_1.length + x11_9.length < 140737488355328 then ((some (x8_1 ++ x11_9 : List Int)).bind fun y195 => (if x10_1 < (l1.length : Int) then (if 0 ≤ x10_1 then (if rdOf false l1 x10_1 = true then ((disk_Sync.f t187 t190).bind fun bt199 => (customslaw33_DiskPrefix.l0 kj9 l0 l1 a2 y195 (y195.length : Int) (wrap64 (x10_1 + 1)) bt199.1 bt199.2)) else (customslaw33_DiskPrefix.l0 kj9 l0 l1 a2 y195 x9_1 (wrap64 (x10_1 + 1)) t187 t190)) else (none)) else (customslaw33_DiskPrefix.l0 kj9 l0 l1 a2 y195 x9_1 (wrap64 (x10_1 + 1)) t187 t190))) else (none)) else (some false)) = some true := H
                have A14 := Aside0.mk A140
                clear A140
                have c15 : t193 = 0 := by
                  refine Classical.byContradiction fun c15 => ?_
                  rw [if_neg c15] at H
                  exact absurd (Option.some.inj H) (by simp)
                rw [if_pos c15] at H
                have c15b0 : (t193 == 0) = true := beq_iff_eq.mpr c15
                have c15b1 : (t193 != 0) = false := bne_eq_false_iff_eq.mpr c15
                clear c15
                have c16 : x8_1.length + x11_9.length < 140737488355328 := by
                  refine Classical.byContradiction fun c16 => ?_
                  rw [if_neg c16] at H
                  exact absurd H (by simp)
                rw [if_pos c16] at H
                have LMc16 := Aside0.mk c16
                clear c16
                obtain ⟨y195, hy195⟩ : ∃ y_ : List Int, y_ = (x8_1 ++ x11_9) := ⟨_, rfl⟩
                replace H : (if x10_1 < (l1.length : Int) then (if 0 ≤ x10_1 then (if rdOf false l1 x10_1 = true then ((disk_Sync.f t187 t190).bind fun bt199 => (customslaw33_DiskPrefix.l0 kj9 l0 l1 a2 y195 (y195.length : Int) (wrap64 (x10_1 + 1)) bt199.1 bt199.2)) else (customslaw33_DiskPrefix.l0 kj9 l0 l1 a2 y195 x9_1 (wrap64 (x10_1 + 1)) t187 t190)) else (none)) else (customslaw33_DiskPrefix.l0 kj9 l0 l1 a2 y195 x9_1 (wrap64 (x10_1 + 1)) t187 t190)) = some true := by first | (rw [hy195]; with_reducible exact H) | (have H2_ := (Option.bind_some _ _).symm.trans H; rw [hy195]; with_reducible exact H2_) | (have H2_ := (Option.bind_some _ _).symm.trans H; with_reducible exact H2_) | with_reducible exact H | (rw [hy195]; exact H) | exact H
                have Ny195 := Aside0.mk hy195
                clear hy195
                by_cases c17 : x10_1 < (l1.length : Int)
                · rw [if_pos c17] at H
                  have c17b0 : decide (x10_1 < (l1.length : Int)) = true := decide_eq_true c17
                  clear c17
                  have c18 : 0 ≤ x10_1 := by
                    refine Classical.byContradiction fun c18 => ?_
                    rw [if_neg c18] at H
                    exact absurd H (by simp)
                  rw [if_pos c18] at H
                  have c18b0 : decide (0 ≤ x10_1) = true := decide_eq_true c18
                  clear c18
                  obtain ⟨bq19, hbq19⟩ : ∃ b_ : Bool, b_ = (rdOf false l1 x10_1) := ⟨_, rfl⟩
                  replace H : (if bq19 = true then ((disk_Sync.f t187 t190).bind fun bt199 => (customslaw33_DiskPrefix.l0 kj9 l0 l1 a2 y195 (y195.length : Int) (wrap64 (x10_1 + 1)) bt199.1 bt199.2)) else (customslaw33_DiskPrefix.l0 kj9 l0 l1 a2 y195 x9_1 (wrap64 (x10_1 + 1)) t187 t190)) = some true := by rw [← hbq19] at H; exact H
                  have Nbq19 := Aside0.mk hbq19
                  clear hbq19
                  by_cases c20 : bq19 = true
                  · subst c20
                    have H1 : ((disk_Sync.f t187 t190).bind fun bt199 => (customslaw33_DiskPrefix.l0 kj9 l0 l1 a2 y195 (y195.length : Int) (wrap64 (x10_1 + 1)) bt199.1 bt199.2)) = some true := by rw [if_pos rfl] at H; exact H
                    clear H
                    have H := H1
                    clear H1
                    replace H := Option.bind_eq_some_iff.mp H
                    obtain ⟨⟨t199, t202⟩, A210, H⟩ := H
                    replace H : (customslaw33_DiskPrefix.l0 kj9 l0 l1 a2 y195 (y195.length : Int) (wrap64 (x10_1 + 1)) t199 t202) = some true := H
                    have A21 := Aside0.mk A210
                    clear A210
                    have H' := Aside0.mk H
                    clear H
                    have hcz22_0 : wc.cell? ⟨gb180, 0, none⟩ = some (u181000) := (blk_cell BK180.out 0).trans rfl
                    have hcz22_1 : wc.cell? ⟨gb180, 1, none⟩ = some (u181001) := (blk_cell BK180.out 1).trans rfl
                    have hfz22_0 := blk_frozen BK180.out 0
                    have hfz22_1 := blk_frozen BK180.out 1
                    obtain ⟨Ao23, co23, eo23⟩ := Kd.R_slice HO_181000.out
                    subst eo23
                    obtain ⟨Ao24, co24, eo24⟩ := Kd.R_slice HO_181001.out
                    subst eo24
                    obtain ⟨Ao25, co25, eo25⟩ := Kd.V_slice HO_11.out
                    subst eo25
                    go_wp2_with (first | ((with_reducible refine gate_callee (f := 12) rfl ?_); refine goesL_ (some 37) rfl rfl Try.func12 (by kernel_rfl) rfl #[.agg #[.slice Ao23 x181000_1.length co23, .slice Ao24 x181001_1.length co24], .slice Ao25 x11_9.length co25] rfl (by (try simp only [List.map_toArray, List.map_cons, List.map_nil]); first | done | rfl | (simp only [List.length_drop, List.length_take]; rfl)) ?_; (with_reducible refine (disk_Write.calls _ _ x181000_1 _ _ x181001_1 _ _ x11_9 t187 t190 t193 _ ?side1 ?side2 ?side3 ?side4 ?side5 ?side6 A14.out).mono ?_); (case side1 => exact pC (Kd.R_reads' HO_181000.out).2.2); (case side2 => exact (Kd.R_reads' HO_181000.out).2.1); (case side3 => exact pC (Kd.R_reads' HO_181001.out).2.2); (case side4 => exact (Kd.R_reads' HO_181001.out).2.1); (case side5 => exact pC (Kd.V_reads' HO_11.out).2.2); (case side6 => exact (Kd.V_reads' HO_11.out).2.1); rintro e w26 ⟨v188, v191, rfl, ho0, ho1, hb⟩; refine ⟨_, rfl, ?_⟩; have n0_ := Aside0.mk (Kd.V_mono (Kd.V_told (Kd.V_told (Kd.V_old (by exact pV HO_0.out) hb) (Kd.R_base ho0)) (Kd.R_base ho1)) (fun _ h_ => h_.1)); have n1_ := Aside0.mk (Kd.R_mono (Kd.R_told (Kd.R_told (Kd.R_old (by exact pR HO_8.out) hb) (Kd.R_base ho0)) (Kd.R_base ho1)) (fun _ h_ => h_.1)); have n2_ := Aside0.mk (Kd.V_mono (Kd.V_told (Kd.V_told (Kd.V_old (by exact pV HO_11.out) hb) (Kd.R_base ho0)) (Kd.R_base ho1)) (fun _ h_ => h_.1)); have n3_ := Aside0.mk (Kd.R_mono (Kd.R_told (Kd.R_told (Kd.R_old (by exact pR HO_181000.out) hb) (Kd.R_base ho0)) (Kd.R_base ho1)) (fun _ h_ => h_.1)); have n4_ := Aside0.mk (Kd.R_mono (Kd.R_told (Kd.R_told (Kd.R_old (by exact pR HO_181001.out) hb) (Kd.R_base ho0)) (Kd.R_base ho1)) (fun _ h_ => h_.1)); have n5_ := Aside0.mk (Kd.R_lower (Kd.R_new' (Kd.R_new' (Kd.R_new' (Kd.R_newM (M := fun k_ => (w.heap.size ≤ k_)) ho0 (below_size (by exact pB HB.out)) (fun k_ h_ => h_)) (Kd.R_lt (by exact pR HO_8.out))) (Kd.R_lt (by exact pR HO_181000.out))) (Kd.R_lt (by exact pR HO_181001.out))) (below_size (by exact pB HB.out))); have n6_ := Aside0.mk (Kd.R_lower (Kd.R_new' (Kd.R_new' (Kd.R_new' (Kd.R_newM (M := fun k_ => (w.heap.size ≤ k_)) ho1 (below_size (by exact pB HB.out)) (fun k_ h_ => h_)) (Kd.R_lt (by exact pR HO_8.out))) (Kd.R_lt (by exact pR HO_181000.out))) (Kd.R_lt (by exact pR HO_181001.out))) (below_size (by exact pB HB.out))); have n7_ := Aside0.mk (blk_below (g := gb180) (o := .cells #[.slice Ao23 x181000_1.length co23, .slice Ao24 x181001_1.length co24] 24 (0, 0)) (by exact pK BK180.out) hb); have n8_ := Aside0.mk (Kd.C_below (by exact pC HR181_0.out) hb); have n9_ := Aside0.mk (below_step (by exact pB HB.out) hb); clear HO_0; clear HO_8; clear HO_11; clear HO_181000; clear HO_181001; clear BK180; clear HR181_0; clear HB; have HO_0 := n0_; have HO_8 := n1_; have HO_11 := n2_; have HO_181000 := n3_; have HO_181001 := n4_; have HO189 := n5_; have HO192 := n6_; have BK180 := n7_; have HR181_0 := n8_; have HB := n9_; clear n0_ n1_ n2_ n3_ n4_ n5_ n6_ n7_ n8_ n9_; (try clear hb); (try clear hb2); (try clear hk); (try clear hi); (try clear ho0); (try clear ho1)) | ((with_reducible refine gate_dst (N := 12) rfl ?_); (try (refine gate_guard (by rfl) ?_; dsimp only)); refine box_event ?hg (N := 12) ?hd (cs := #[.slice none 0 0, .slice none 0 0]) (t := 24) ?hr ?_; (case hd => rfl); (case hg => rfl); (case hr => first | (go_simp; done) | (go_simp; rfl)); intro gb194 hg w27 hbox hb; have n0_ := Aside0.mk (Kd.V_below (Kd.V_elderB (by exact pV HO_0.out) gb194 (Nat.le_of_eq hg.symm)) hb); have n1_ := Aside0.mk (Kd.R_below (by exact pR HO_8.out) hb); have n2_ := Aside0.mk (Kd.V_below (Kd.V_elderB (by exact pV HO_11.out) gb194 (Nat.le_of_eq hg.symm)) hb); have n3_ := Aside0.mk (Kd.R_below (by exact pR HO_181000.out) hb); have n4_ := Aside0.mk (Kd.R_below (by exact pR HO_181001.out) hb); have n5_ := Aside0.mk (Kd.R_below (by exact pR HO189.out) hb); have n6_ := Aside0.mk (Kd.R_below (by exact pR HO192.out) hb); have n7_ := Aside0.mk (blk_below (g := gb180) (o := .cells #[.slice Ao23 x181000_1.length co23, .slice Ao24 x181001_1.length co24] 24 (0, 0)) (by exact pK BK180.out) hb); have n8_ := Aside0.mk (Kd.C_below (by exact pC HR181_0.out) hb); have n9_ := Aside0.mk (below_step (by exact pB HB.out) hb); have n10_ := Aside0.mk (hbox); have n11_ := Aside0.mk ((by rw [hg]; exact (below_size (by exact pB HB.out)) : w.heap.size ≤ gb194)); have n12_ := Aside0.mk ((by rw [hg]; exact (below_size (by exact pB HB.out)) : w.heap.size ≤ gb194)); have n13_ := Aside0.mk ((by rw [hg]; exact Nat.ne_of_lt (blk_lt (g := gb180) (o := .cells #[.slice Ao23 x181000_1.length co23, .slice Ao24 x181001_1.length co24] 24 (0, 0)) (by exact pK BK180.out)) : gb180 ≠ gb194)); have n14_ := Aside0.mk ((by rw [hg]; exact Nat.ne_of_gt (blk_lt (g := gb180) (o := .cells #[.slice Ao23 x181000_1.length co23, .slice Ao24 x181001_1.length co24] 24 (0, 0)) (by exact pK BK180.out)) : gb194 ≠ gb180)); clear HO_0; clear HO_8; clear HO_11; clear HO_181000; clear HO_181001; clear HO189; clear HO192; clear BK180; clear HR181_0; clear HB; have HO_0 := n0_; have HO_8 := n1_; have HO_11 := n2_; have HO_181000 := n3_; have HO_181001 := n4_; have HO189 := n5_; have HO192 := n6_; have BK180 := n7_; have HR181_0 := n8_; have HB := n9_; have BK194 := n10_; have GW194 := n11_; have GE194 := n12_; have NB180_194 := n13_; have NB194_180 := n14_; clear n0_ n1_ n2_ n3_ n4_ n5_ n6_ n7_ n8_ n9_ n10_ n11_ n12_ n13_ n14_; clear hb hbox hg; obtain ⟨Ao28, co28, eo28⟩ := Kd.R_slice HO189.out; subst eo28; have hnb29 := NB194_180.out; have hnc29 := NB180_194.out; have hcz30_0 : w27.cell? ⟨gb194, 0, none⟩ = some (.slice none 0 0) := (blk_cell BK194.out 0).trans rfl; have hcz30_1 : w27.cell? ⟨gb194, 1, none⟩ = some (.slice none 0 0) := (blk_cell BK194.out 1).trans rfl; have hfz30_0 := blk_frozen BK194.out 0; have hfz30_1 := blk_frozen BK194.out 1; obtain ⟨Ao31, co31, eo31⟩ := Kd.R_slice HO192.out; subst eo31; have hcz32_0 : w27.cell? ⟨gb180, 0, none⟩ = some (.slice Ao23 x181000_1.length co23) := (blk_cell BK180.out 0).trans rfl; have hcz32_1 : w27.cell? ⟨gb180, 1, none⟩ = some (.slice Ao24 x181001_1.length co24) := (blk_cell BK180.out 1).trans rfl; have hfz32_0 := blk_frozen BK180.out 0; have hfz32_1 := blk_frozen BK180.out 1) | ((with_reducible refine gate_builtin (b := .append) (xs := #[.tmp 43, .tmp 44]) rfl ?_); (try (refine gate_guard (by rfl) ?_; dsimp only)); at_builtin; refine Kd.R_append_rows (Kd.int .u8) (w0 := w) w.heap.size rfl (.tmp 43) (.tmp 44) 22 5 (.int .u8 0) 1 rfl Try.underlying22 info5 rfl (by decide) (by omega) u8 x8_1 x11_9 _ _ _ (fun k_ => (w.heap.size ≤ k_) ∧ some k_ ≠ (.slice Ao23 x181000_1.length co23 : Value).ownBlock ∧ some k_ ≠ (.slice Ao24 x181001_1.length co24 : Value).ownBlock ∧ some k_ ≠ (.slice Ao28 t187.length co28 : Value).ownBlock ∧ some k_ ≠ (.slice Ao31 t190.length co31 : Value).ownBlock) (fun _ => False) rfl rfl ?aO ?aR (fun _ _ h => h) (fun _ h => h.elim) ?aF ?aB ?aS ?aL ?_; (case aR => refine (Kd.V_reads' (e := 5) (base := w.heap.size) (ok := fun k_ => (((((P0_ k_ ∨ w.heap.size ≤ k_) ∧ (some k_ ≠ (u8 : Value).ownBlock ∧ (some k_ ≠ (.slice Ao23 x181000_1.length co23 : Value).ownBlock ∧ (some k_ ≠ (.slice Ao24 x181001_1.length co24 : Value).ownBlock ∧ k_ ≠ gb180)))) ∧ some k_ ≠ (.slice Ao28 t187.length co28 : Value).ownBlock) ∧ some k_ ≠ (.slice Ao31 t190.length co31 : Value).ownBlock) ∧ k_ ≠ gb194)) (n := x11_9.length) (c := co25) ?_).2.2; exact (by (with_reducible repeat (first | apply Kd.V_alloc | apply Kd.V_drewN | apply Kd.V_drew)); exact (Kd.V_mono (Kd.V_mono (Kd.V_far (p := ⟨gb180, 1, none⟩) (Kd.V_far (p := ⟨gb180, 0, none⟩) (Kd.V_far (p := ⟨gb194, 1, none⟩) (Kd.V_far (p := ⟨gb194, 0, none⟩) (Kd.V_mono (Kd.V_mono HO_11.out (fun k_ hk => (⟨hk, hk.2⟩ : _ ∧ k_ ≠ gb194))) (fun k_ hk => (⟨hk, hk.1.1.1.1.2.2.2.2⟩ : _ ∧ k_ ≠ gb180))) (fun _ hk => hk.1.2) (.slice Ao28 t187.length co28)) (fun _ hk => hk.1.2) (.slice Ao31 t190.length co31)) (fun _ hk => hk.2) (.slice Ao28 t187.length co28)) (fun _ hk => hk.2) (.slice Ao31 t190.length co31)) (fun _ h_ => h_.1)) (fun _ h_ => h_.1)))); (case aB => exact (by repeat (first | (with_reducible first | exact HB.out | apply below_alloc | apply pw_below_drewN | apply below_drew1 | refine below_set ?_ GE180.out | refine below_set ?_ GE194.out) | exact HB.out))); (case aF => exact (fun k_ hk => ⟨(Nat.le_trans (below_size (by repeat (first | (with_reducible first | exact HB.out | apply below_alloc | apply pw_below_drewN | apply below_drew1 | refine below_set ?_ GE180.out | refine below_set ?_ GE194.out) | exact HB.out))) hk), Kd.fresh' (Kd.R_lt (by (with_reducible repeat (first | apply Kd.R_alloc | apply Kd.R_drewN | apply Kd.R_drew)); exact (Kd.R_mono (Kd.R_mono (Kd.R_far (p := ⟨gb180, 1, none⟩) (Kd.R_far (p := ⟨gb180, 0, none⟩) (Kd.R_far (p := ⟨gb194, 1, none⟩) (Kd.R_far (p := ⟨gb194, 0, none⟩) (Kd.R_types (Kd.R_types HO_181000.out BK194.out (by decide)) BK180.out (by decide)) (fun _ hk => hk.1.2) (.slice Ao28 t187.length co28)) (fun _ hk => hk.1.2) (.slice Ao31 t190.length co31)) (fun _ hk => hk.2) (.slice Ao28 t187.length co28)) (fun _ hk => hk.2) (.slice Ao31 t190.length co31)) (fun _ h_ => h_.1)) (fun _ h_ => h_.1)))) k_ hk, Kd.fresh' (Kd.R_lt (by (with_reducible repeat (first | apply Kd.R_alloc | apply Kd.R_drewN | apply Kd.R_drew)); exact (Kd.R_mono (Kd.R_mono (Kd.R_far (p := ⟨gb180, 1, none⟩) (Kd.R_far (p := ⟨gb180, 0, none⟩) (Kd.R_far (p := ⟨gb194, 1, none⟩) (Kd.R_far (p := ⟨gb194, 0, none⟩) (Kd.R_types (Kd.R_types HO_181001.out BK194.out (by decide)) BK180.out (by decide)) (fun _ hk => hk.1.2) (.slice Ao28 t187.length co28)) (fun _ hk => hk.1.2) (.slice Ao31 t190.length co31)) (fun _ hk => hk.2) (.slice Ao28 t187.length co28)) (fun _ hk => hk.2) (.slice Ao31 t190.length co31)) (fun _ h_ => h_.1)) (fun _ h_ => h_.1)))) k_ hk, Kd.fresh' (Kd.R_lt (by (with_reducible repeat (first | apply Kd.R_alloc | apply Kd.R_drewN | apply Kd.R_drew)); exact (Kd.R_mono (Kd.R_mono (Kd.R_far (p := ⟨gb180, 1, none⟩) (Kd.R_far (p := ⟨gb180, 0, none⟩) (Kd.R_far (p := ⟨gb194, 1, none⟩) (Kd.R_far (p := ⟨gb194, 0, none⟩) (Kd.R_types (Kd.R_types HO189.out BK194.out (by decide)) BK180.out (by decide)) (fun _ hk => hk.1.2) (.slice Ao28 t187.length co28)) (fun _ hk => hk.1.2) (.slice Ao31 t190.length co31)) (fun _ hk => hk.2) (.slice Ao28 t187.length co28)) (fun _ hk => hk.2) (.slice Ao31 t190.length co31)) (fun _ h_ => h_.1)) (fun _ h_ => h_.1)))) k_ hk, Kd.fresh' (Kd.R_lt (by (with_reducible repeat (first | apply Kd.R_alloc | apply Kd.R_drewN | apply Kd.R_drew)); exact (Kd.R_mono (Kd.R_mono (Kd.R_far (p := ⟨gb180, 1, none⟩) (Kd.R_far (p := ⟨gb180, 0, none⟩) (Kd.R_far (p := ⟨gb194, 1, none⟩) (Kd.R_far (p := ⟨gb194, 0, none⟩) (Kd.R_types (Kd.R_types HO192.out BK194.out (by decide)) BK180.out (by decide)) (fun _ hk => hk.1.2) (.slice Ao28 t187.length co28)) (fun _ hk => hk.1.2) (.slice Ao31 t190.length co31)) (fun _ hk => hk.2) (.slice Ao28 t187.length co28)) (fun _ hk => hk.2) (.slice Ao31 t190.length co31)) (fun _ h_ => h_.1)) (fun _ h_ => h_.1)))) k_ hk⟩)); (case aO => exact (by (with_reducible repeat (first | apply Kd.R_alloc | apply Kd.R_drewN | apply Kd.R_drew)); exact Kd.R_mono (Kd.R_far (p := ⟨gb180, 1, none⟩) (Kd.R_far (p := ⟨gb180, 0, none⟩) (Kd.R_far (p := ⟨gb194, 1, none⟩) (Kd.R_far (p := ⟨gb194, 0, none⟩) (Kd.R_types (Kd.R_types HO_8.out BK194.out (by decide)) BK180.out (by decide)) (fun _ hk => hk.1.2) (.slice Ao28 t187.length co28)) (fun _ hk => hk.1.2) (.slice Ao31 t190.length co31)) (fun _ hk => hk.2) (.slice Ao28 t187.length co28)) (fun _ hk => hk.2) (.slice Ao31 t190.length co31)) (fun _ hk => ⟨hk.1.1.1.1.1, ⟨hk.1.1.1.1.2.1, ⟨hk.1.1.1.1.2.2, ⟨hk.1.1.1.2, hk.1.1.2⟩⟩⟩⟩))); (case aS => exact (below_size (by repeat (first | (with_reducible first | exact HB.out | apply below_alloc | apply pw_below_drewN | apply below_drew1 | refine below_set ?_ GE180.out | refine below_set ?_ GE194.out) | exact HB.out)))); (case aL => have := LMc16.out; omega); intro v196 w33 ho hb hg hat; rw [← Ny195.out] at ho; have n0_ := Aside0.mk (Kd.V_afterv (ok := (fun k_ => (P0_ k_ ∨ w.heap.size ≤ k_) ∧ some k_ ≠ (.slice Ao23 x181000_1.length co23 : Value).ownBlock ∧ some k_ ≠ (.slice Ao24 x181001_1.length co24 : Value).ownBlock ∧ some k_ ≠ (.slice Ao28 t187.length co28 : Value).ownBlock ∧ some k_ ≠ (.slice Ao31 t190.length co31 : Value).ownBlock ∧ k_ ≠ gb180 ∧ k_ ≠ gb194)) (by (with_reducible repeat (first | apply Kd.V_alloc | apply Kd.V_drewN | apply Kd.V_drew)); exact Kd.V_mono (Kd.V_far (p := ⟨gb180, 1, none⟩) (Kd.V_far (p := ⟨gb180, 0, none⟩) (Kd.V_far (p := ⟨gb194, 1, none⟩) (Kd.V_far (p := ⟨gb194, 0, none⟩) (Kd.V_mono (Kd.V_mono HO_0.out (fun k_ hk => (⟨hk, hk.2⟩ : _ ∧ k_ ≠ gb194))) (fun k_ hk => (⟨hk, hk.1.1.1.1.2.2.2.2⟩ : _ ∧ k_ ≠ gb180))) (fun _ hk => hk.1.2) (.slice Ao28 t187.length co28)) (fun _ hk => hk.1.2) (.slice Ao31 t190.length co31)) (fun _ hk => hk.2) (.slice Ao28 t187.length co28)) (fun _ hk => hk.2) (.slice Ao31 t190.length co31)) (fun _ hk => ⟨⟨hk.1.1.1.1.1.1, ⟨hk.1.1.1.1.1.2.2.1, ⟨hk.1.1.1.1.1.2.2.2.1, ⟨hk.1.1.1.1.2, ⟨hk.1.1.1.2, ⟨hk.1.1.1.1.1.2.2.2.2, hk.1.1.2⟩⟩⟩⟩⟩⟩, hk.1.1.1.1.1.2.1⟩)) hg hat); have n1_ := Aside0.mk (Kd.V_afterv (ok := (fun k_ => (P0_ k_ ∨ w.heap.size ≤ k_) ∧ some k_ ≠ (.slice Ao23 x181000_1.length co23 : Value).ownBlock ∧ some k_ ≠ (.slice Ao24 x181001_1.length co24 : Value).ownBlock ∧ some k_ ≠ (.slice Ao28 t187.length co28 : Value).ownBlock ∧ some k_ ≠ (.slice Ao31 t190.length co31 : Value).ownBlock ∧ k_ ≠ gb180 ∧ k_ ≠ gb194)) (by (with_reducible repeat (first | apply Kd.V_alloc | apply Kd.V_drewN | apply Kd.V_drew)); exact Kd.V_mono (Kd.V_far (p := ⟨gb180, 1, none⟩) (Kd.V_far (p := ⟨gb180, 0, none⟩) (Kd.V_far (p := ⟨gb194, 1, none⟩) (Kd.V_far (p := ⟨gb194, 0, none⟩) (Kd.V_mono (Kd.V_mono HO_11.out (fun k_ hk => (⟨hk, hk.2⟩ : _ ∧ k_ ≠ gb194))) (fun k_ hk => (⟨hk, hk.1.1.1.1.2.2.2.2⟩ : _ ∧ k_ ≠ gb180))) (fun _ hk => hk.1.2) (.slice Ao28 t187.length co28)) (fun _ hk => hk.1.2) (.slice Ao31 t190.length co31)) (fun _ hk => hk.2) (.slice Ao28 t187.length co28)) (fun _ hk => hk.2) (.slice Ao31 t190.length co31)) (fun _ hk => ⟨⟨hk.1.1.1.1.1.1, ⟨hk.1.1.1.1.1.2.2.1, ⟨hk.1.1.1.1.1.2.2.2.1, ⟨hk.1.1.1.1.2, ⟨hk.1.1.1.2, ⟨hk.1.1.1.1.1.2.2.2.2, hk.1.1.2⟩⟩⟩⟩⟩⟩, hk.1.1.1.1.1.2.1⟩)) hg hat); have n2_ := Aside0.mk (Kd.R_after (ok := (fun k_ => (w.heap.size ≤ k_) ∧ some k_ ≠ (.slice Ao24 x181001_1.length co24 : Value).ownBlock ∧ some k_ ≠ (.slice Ao28 t187.length co28 : Value).ownBlock ∧ some k_ ≠ (.slice Ao31 t190.length co31 : Value).ownBlock)) (by (with_reducible repeat (first | apply Kd.R_alloc | apply Kd.R_drewN | apply Kd.R_drew)); exact Kd.R_mono (Kd.R_far (p := ⟨gb180, 1, none⟩) (Kd.R_far (p := ⟨gb180, 0, none⟩) (Kd.R_far (p := ⟨gb194, 1, none⟩) (Kd.R_far (p := ⟨gb194, 0, none⟩) (Kd.R_types (Kd.R_types HO_181000.out BK194.out (by decide)) BK180.out (by decide)) (fun _ hk => hk.1.2) (.slice Ao28 t187.length co28)) (fun _ hk => hk.1.2) (.slice Ao31 t190.length co31)) (fun _ hk => hk.2) (.slice Ao28 t187.length co28)) (fun _ hk => hk.2) (.slice Ao31 t190.length co31)) (fun _ hk => ⟨⟨hk.1.1.1.1.1, ⟨hk.1.1.1.1.2.2, ⟨hk.1.1.1.2, hk.1.1.2⟩⟩⟩, hk.1.1.1.1.2.1⟩)) hg hat); have n3_ := Aside0.mk (Kd.R_after (ok := (fun k_ => (w.heap.size ≤ k_) ∧ some k_ ≠ (.slice Ao23 x181000_1.length co23 : Value).ownBlock ∧ some k_ ≠ (.slice Ao28 t187.length co28 : Value).ownBlock ∧ some k_ ≠ (.slice Ao31 t190.length co31 : Value).ownBlock)) (by (with_reducible repeat (first | apply Kd.R_alloc | apply Kd.R_drewN | apply Kd.R_drew)); exact Kd.R_mono (Kd.R_far (p := ⟨gb180, 1, none⟩) (Kd.R_far (p := ⟨gb180, 0, none⟩) (Kd.R_far (p := ⟨gb194, 1, none⟩) (Kd.R_far (p := ⟨gb194, 0, none⟩) (Kd.R_types (Kd.R_types HO_181001.out BK194.out (by decide)) BK180.out (by decide)) (fun _ hk => hk.1.2) (.slice Ao28 t187.length co28)) (fun _ hk => hk.1.2) (.slice Ao31 t190.length co31)) (fun _ hk => hk.2) (.slice Ao28 t187.length co28)) (fun _ hk => hk.2) (.slice Ao31 t190.length co31)) (fun _ hk => ⟨⟨hk.1.1.1.1.1, ⟨hk.1.1.1.1.2.2, ⟨hk.1.1.1.2, hk.1.1.2⟩⟩⟩, hk.1.1.1.1.2.1⟩)) hg hat); have n4_ := Aside0.mk (blk_grown (g := gb180) (o := .cells #[.slice Ao28 t187.length co28, .slice Ao31 t190.length co31] 24 (0, 0)) (by (with_reducible repeat (first | refine blk_drewN ?_ _ | refine blk_drew ?_ | refine blk_alloc ?_ _)); refine blk_put (cs := #[.slice Ao28 t187.length co28, .slice Ao24 x181001_1.length co24]) ?_ 1 _ rfl; (with_reducible repeat (first | refine blk_drewN ?_ _ | refine blk_drew ?_ | refine blk_alloc ?_ _)); refine blk_put (cs := #[.slice Ao23 x181000_1.length co23, .slice Ao24 x181001_1.length co24]) ?_ 0 _ rfl; (with_reducible repeat (first | refine blk_drewN ?_ _ | refine blk_drew ?_ | refine blk_alloc ?_ _)); refine blk_far ?_ NB180_194.out _; (with_reducible repeat (first | refine blk_drewN ?_ _ | refine blk_drew ?_ | refine blk_alloc ?_ _)); refine blk_far ?_ NB180_194.out _; (with_reducible repeat (first | refine blk_drewN ?_ _ | refine blk_drew ?_ | refine blk_alloc ?_ _)); exact BK180.out) hg (Kd.R_ne HO_8.out BK180.out (by decide))); have n5_ := Aside0.mk (Kd.R_after (ok := (fun k_ => (w.heap.size ≤ k_) ∧ some k_ ≠ (.slice Ao23 x181000_1.length co23 : Value).ownBlock ∧ some k_ ≠ (.slice Ao24 x181001_1.length co24 : Value).ownBlock ∧ some k_ ≠ (.slice Ao31 t190.length co31 : Value).ownBlock)) (by (with_reducible repeat (first | apply Kd.R_alloc | apply Kd.R_drewN | apply Kd.R_drew)); exact Kd.R_mono (Kd.R_far (p := ⟨gb180, 1, none⟩) (Kd.R_far (p := ⟨gb180, 0, none⟩) (Kd.R_far (p := ⟨gb194, 1, none⟩) (Kd.R_far (p := ⟨gb194, 0, none⟩) (Kd.R_types (Kd.R_types HO189.out BK194.out (by decide)) BK180.out (by decide)) (fun _ hk => hk.1.2) (.slice Ao28 t187.length co28)) (fun _ hk => hk.1.2) (.slice Ao31 t190.length co31)) (fun _ hk => hk.2) (.slice Ao28 t187.length co28)) (fun _ hk => hk.2) (.slice Ao31 t190.length co31)) (fun _ hk => ⟨⟨hk.1.1.1.1.1.1, ⟨hk.1.1.1.2, ⟨hk.1.1.2, hk.1.1.1.1.1.2⟩⟩⟩, hk.1.1.1.1.2⟩)) hg hat); have n6_ := Aside0.mk (Kd.R_after (ok := (fun k_ => (w.heap.size ≤ k_) ∧ some k_ ≠ (.slice Ao23 x181000_1.length co23 : Value).ownBlock ∧ some k_ ≠ (.slice Ao24 x181001_1.length co24 : Value).ownBlock ∧ some k_ ≠ (.slice Ao28 t187.length co28 : Value).ownBlock)) (by (with_reducible repeat (first | apply Kd.R_alloc | apply Kd.R_drewN | apply Kd.R_drew)); exact Kd.R_mono (Kd.R_far (p := ⟨gb180, 1, none⟩) (Kd.R_far (p := ⟨gb180, 0, none⟩) (Kd.R_far (p := ⟨gb194, 1, none⟩) (Kd.R_far (p := ⟨gb194, 0, none⟩) (Kd.R_types (Kd.R_types HO192.out BK194.out (by decide)) BK180.out (by decide)) (fun _ hk => hk.1.2) (.slice Ao28 t187.length co28)) (fun _ hk => hk.1.2) (.slice Ao31 t190.length co31)) (fun _ hk => hk.2) (.slice Ao28 t187.length co28)) (fun _ hk => hk.2) (.slice Ao31 t190.length co31)) (fun _ hk => ⟨⟨hk.1.1.1.1.1.1, ⟨hk.1.1.1.2, ⟨hk.1.1.2, hk.1.1.1.1.1.2⟩⟩⟩, hk.1.1.1.1.2⟩)) hg hat); have n7_ := Aside0.mk (blk_grown (g := gb194) (o := .cells #[.slice Ao28 t187.length co28, .slice Ao31 t190.length co31] 24 (0, 0)) (by (with_reducible repeat (first | refine blk_drewN ?_ _ | refine blk_drew ?_ | refine blk_alloc ?_ _)); refine blk_far ?_ NB194_180.out _; (with_reducible repeat (first | refine blk_drewN ?_ _ | refine blk_drew ?_ | refine blk_alloc ?_ _)); refine blk_far ?_ NB194_180.out _; (with_reducible repeat (first | refine blk_drewN ?_ _ | refine blk_drew ?_ | refine blk_alloc ?_ _)); refine blk_put (cs := #[.slice Ao28 t187.length co28, .slice none 0 0]) ?_ 1 _ rfl; (with_reducible repeat (first | refine blk_drewN ?_ _ | refine blk_drew ?_ | refine blk_alloc ?_ _)); refine blk_put (cs := #[.slice none 0 0, .slice none 0 0]) ?_ 0 _ rfl; (with_reducible repeat (first | refine blk_drewN ?_ _ | refine blk_drew ?_ | refine blk_alloc ?_ _)); exact BK194.out) hg (Kd.R_ne HO_8.out BK194.out (by decide))); have n8_ := Aside0.mk (hb); have n9_ := Aside0.mk (ho); clear HO_0; clear HO_11; clear HO_181000; clear HO_181001; clear BK180; clear HO189; clear HO192; clear BK194; clear HB; clear HO_8; have HO_0 := n0_; have HO_11 := n1_; have HO_181000 := n2_; have HO_181001 := n3_; have BK180 := n4_; have HO189 := n5_; have HO192 := n6_; have BK194 := n7_; have HB := n8_; have HO197 := n9_; clear n0_ n1_ n2_ n3_ n4_ n5_ n6_ n7_ n8_ n9_; clear ho hb hg hat; have p198 : 0 ≤ (x10_1 : Int) := of_decide_eq_true (by first | (with_reducible assumption) | assumption); have q198 : x10_1 < (l1.length : Int) := of_decide_eq_true (by first | (with_reducible assumption) | assumption); obtain ⟨ad198, e198, hx198_0⟩ := Kd.at_bool HR1.out x10_1 p198 q198; (try rw [← Nbq19.out] at hx198_0); cases e198; replace hx198_0 := (HB.out.cell (World.block_lt_of_cell? w _ hx198_0)).trans hx198_0; replace p198 := eq_true p198; replace q198 := eq_true q198; have hcz34_0 : w33.cell? ⟨gb180, 0, none⟩ = some (.slice Ao28 t187.length co28) := (blk_cell BK180.out 0).trans rfl; have hcz34_1 : w33.cell? ⟨gb180, 1, none⟩ = some (.slice Ao31 t190.length co31) := (blk_cell BK180.out 1).trans rfl; have hfz34_0 := blk_frozen BK180.out 0; have hfz34_1 := blk_frozen BK180.out 1) | ((with_reducible refine gate_callee (f := 15) rfl ?_); refine goesL_ (some 57) rfl rfl Try.func15 (by kernel_rfl) rfl #[.agg #[.slice Ao28 t187.length co28, .slice Ao31 t190.length co31]] rfl (by (try simp only [List.map_toArray, List.map_cons, List.map_nil]); first | done | rfl | (simp only [List.length_drop, List.length_take]; rfl)) ?_; (with_reducible refine (disk_Sync.calls _ _ t187 _ _ t190 t199 t202 _ ?side1 ?side2 ?side3 ?side4 A21.out).mono ?_); (case side1 => exact pC (Kd.R_reads' HO189.out).2.2); (case side2 => exact (Kd.R_reads' HO189.out).2.1); (case side3 => exact pC (Kd.R_reads' HO192.out).2.2); (case side4 => exact (Kd.R_reads' HO192.out).2.1); rintro e w35 ⟨v200, v203, rfl, ho0, ho1, hb⟩; refine ⟨_, rfl, ?_⟩; have n0_ := Aside0.mk (Kd.V_mono (Kd.V_told (Kd.V_told (Kd.V_old (by exact pV HO_0.out) hb) (Kd.R_base ho0)) (Kd.R_base ho1)) (fun _ h_ => h_.1)); have n1_ := Aside0.mk (Kd.V_mono (Kd.V_told (Kd.V_told (Kd.V_old (by exact pV HO_11.out) hb) (Kd.R_base ho0)) (Kd.R_base ho1)) (fun _ h_ => h_.1)); have n2_ := Aside0.mk (Kd.R_mono (Kd.R_told (Kd.R_told (Kd.R_old (by exact pR HO_181000.out) hb) (Kd.R_base ho0)) (Kd.R_base ho1)) (fun _ h_ => h_.1)); have n3_ := Aside0.mk (Kd.R_mono (Kd.R_told (Kd.R_told (Kd.R_old (by exact pR HO_181001.out) hb) (Kd.R_base ho0)) (Kd.R_base ho1)) (fun _ h_ => h_.1)); have n4_ := Aside0.mk (Kd.R_mono (Kd.R_told (Kd.R_told (Kd.R_old (by exact pR HO189.out) hb) (Kd.R_base ho0)) (Kd.R_base ho1)) (fun _ h_ => h_.1)); have n5_ := Aside0.mk (Kd.R_mono (Kd.R_told (Kd.R_told (Kd.R_old (by exact pR HO192.out) hb) (Kd.R_base ho0)) (Kd.R_base ho1)) (fun _ h_ => h_.1)); have n6_ := Aside0.mk (Kd.R_mono (Kd.R_told (Kd.R_told (Kd.R_old (by exact pR HO197.out) hb) (Kd.R_base ho0)) (Kd.R_base ho1)) (fun _ h_ => h_.1)); have n7_ := Aside0.mk (Kd.R_lower (Kd.R_new' (Kd.R_new' (Kd.R_new' (Kd.R_new' (Kd.R_new' (Kd.R_newM (M := fun k_ => (w.heap.size ≤ k_)) ho0 (below_size (by exact pB HB.out)) (fun k_ h_ => h_)) (Kd.R_lt (by exact pR HO_181000.out))) (Kd.R_lt (by exact pR HO_181001.out))) (Kd.R_lt (by exact pR HO189.out))) (Kd.R_lt (by exact pR HO192.out))) (Kd.R_lt (by exact pR HO197.out))) (below_size (by exact pB HB.out))); have n8_ := Aside0.mk (Kd.R_lower (Kd.R_new' (Kd.R_new' (Kd.R_new' (Kd.R_new' (Kd.R_new' (Kd.R_newM (M := fun k_ => (w.heap.size ≤ k_)) ho1 (below_size (by exact pB HB.out)) (fun k_ h_ => h_)) (Kd.R_lt (by exact pR HO_181000.out))) (Kd.R_lt (by exact pR HO_181001.out))) (Kd.R_lt (by exact pR HO189.out))) (Kd.R_lt (by exact pR HO192.out))) (Kd.R_lt (by exact pR HO197.out))) (below_size (by exact pB HB.out))); have n9_ := Aside0.mk (blk_below (g := gb180) (o := .cells #[.slice Ao28 t187.length co28, .slice Ao31 t190.length co31] 24 (0, 0)) (by exact pK BK180.out) hb); have n10_ := Aside0.mk (blk_below (g := gb194) (o := .cells #[.slice Ao28 t187.length co28, .slice Ao31 t190.length co31] 24 (0, 0)) (by exact pK BK194.out) hb); have n11_ := Aside0.mk (below_step (by exact pB HB.out) hb); clear HO_0; clear HO_11; clear HO_181000; clear HO_181001; clear HO189; clear HO192; clear HO197; clear BK180; clear BK194; clear HB; have HO_0 := n0_; have HO_11 := n1_; have HO_181000 := n2_; have HO_181001 := n3_; have HO189 := n4_; have HO192 := n5_; have HO197 := n6_; have HO201 := n7_; have HO204 := n8_; have BK180 := n9_; have BK194 := n10_; have HB := n11_; clear n0_ n1_ n2_ n3_ n4_ n5_ n6_ n7_ n8_ n9_ n10_ n11_; (try clear hb); (try clear hb2); (try clear hk); (try clear hi); (try clear ho0); (try clear ho1); obtain ⟨Ao36, co36, eo36⟩ := Kd.R_slice HO201.out; subst eo36; have hcz37_0 : w35.cell? ⟨gb180, 0, none⟩ = some (.slice Ao28 t187.length co28) := (blk_cell BK180.out 0).trans rfl; have hcz37_1 : w35.cell? ⟨gb180, 1, none⟩ = some (.slice Ao31 t190.length co31) := (blk_cell BK180.out 1).trans rfl; have hfz37_0 := blk_frozen BK180.out 0; have hfz37_1 := blk_frozen BK180.out 1; obtain ⟨Ao38, co38, eo38⟩ := Kd.R_slice HO204.out; subst eo38; obtain ⟨Ao39, co39, eo39⟩ := Kd.R_slice HO197.out; subst eo39))
                    go_roundg kj9
                    case measure => have := HK1.out; have := HJ4.out; have := HJ9.out; omega
                    case rel => exact ⟨(y195), ((y195.length : Int)), (wrap64 (x10_1 + 1)), (t199), (t202), (.slice Ao36 t199.length co36), (.slice Ao38 t202.length co38), (by first | rfl | (simp; done) | (simp [*]; done)), (by first | rfl | (simp; done) | (simp [*]; done)), H', ⟨by have := HK1.out; have := HJ4.out; have := HJ9.out; omega⟩, ⟨by (with_reducible repeat (first | apply Kd.V_alloc | apply Kd.V_drewN | apply Kd.V_drew)); exact Kd.V_mono (Kd.V_far (p := ⟨gb180, 1, none⟩) (Kd.V_far (p := ⟨gb180, 0, none⟩) (Kd.V_mono HO_0.out (fun k_ hk => (⟨hk, hk.1.1.1.2.2.2.2.2.1⟩ : _ ∧ k_ ≠ gb180))) (fun _ hk => hk.2) (.slice Ao36 t199.length co36)) (fun _ hk => hk.2) (.slice Ao38 t202.length co38)) (fun _ hk => ⟨hk.1.1.1.1.1, ⟨hk.1.1.1.2, ⟨hk.1.1.2, ⟨hk.1.2, hk.1.1.1.1.2.2.2.2.2.1⟩⟩⟩⟩)⟩, ⟨by (with_reducible repeat (first | apply Kd.R_alloc | apply Kd.R_drewN | apply Kd.R_drew)); exact Kd.R_mono (Kd.R_far (p := ⟨gb180, 1, none⟩) (Kd.R_far (p := ⟨gb180, 0, none⟩) (Kd.R_types HO197.out BK180.out (by decide)) (fun _ hk => hk.2) (.slice Ao36 t199.length co36)) (fun _ hk => hk.2) (.slice Ao38 t202.length co38)) (fun _ hk => ⟨hk.1.1.1.1, ⟨hk.1.1.2, hk.1.2⟩⟩)⟩, ⟨by (with_reducible repeat (first | apply Kd.R_alloc | apply Kd.R_drewN | apply Kd.R_drew)); exact Kd.R_mono (Kd.R_far (p := ⟨gb180, 1, none⟩) (Kd.R_far (p := ⟨gb180, 0, none⟩) (Kd.R_types HO201.out BK180.out (by decide)) (fun _ hk => hk.2) (.slice Ao36 t199.length co36)) (fun _ hk => hk.2) (.slice Ao38 t202.length co38)) (fun _ hk => ⟨hk.1.1.1.1.1.1.1, ⟨hk.1.2, hk.1.1.1.1.1.1.2⟩⟩)⟩, ⟨by (with_reducible repeat (first | apply Kd.R_alloc | apply Kd.R_drewN | apply Kd.R_drew)); exact Kd.R_mono (Kd.R_far (p := ⟨gb180, 1, none⟩) (Kd.R_far (p := ⟨gb180, 0, none⟩) (Kd.R_types HO204.out BK180.out (by decide)) (fun _ hk => hk.2) (.slice Ao36 t199.length co36)) (fun _ hk => hk.2) (.slice Ao38 t202.length co38)) (fun _ hk => ⟨hk.1.1.1.1.1.1.1, ⟨hk.1.2, hk.1.1.1.1.1.1.2⟩⟩)⟩, ⟨by (with_reducible repeat (first | refine blk_drewN ?_ _ | refine blk_drew ?_ | refine blk_alloc ?_ _)); refine blk_put (cs := #[.slice Ao36 t199.length co36, .slice Ao31 t190.length co31]) ?_ 1 _ rfl; (with_reducible repeat (first | refine blk_drewN ?_ _ | refine blk_drew ?_ | refine blk_alloc ?_ _)); refine blk_put (cs := #[.slice Ao28 t187.length co28, .slice Ao31 t190.length co31]) ?_ 0 _ rfl; (with_reducible repeat (first | refine blk_drewN ?_ _ | refine blk_drew ?_ | refine blk_alloc ?_ _)); exact BK180.out⟩, ⟨by repeat (first | (with_reducible first | exact HB.out | apply below_alloc | apply pw_below_drewN | apply below_drew1 | refine below_set ?_ GE180.out | refine below_set ?_ GE194.out) | exact HB.out)⟩⟩
                  · replace c20 := Bool.eq_false_iff.mpr c20
                    subst c20
                    have H1 : (customslaw33_DiskPrefix.l0 kj9 l0 l1 a2 y195 x9_1 (wrap64 (x10_1 + 1)) t187 t190) = some true := by rw [if_neg (show ¬ (false = true) by decide)] at H; exact H
                    clear H
                    have H := H1
                    clear H1
                    have H' := Aside0.mk H
                    clear H
                    have hcz40_0 : wc.cell? ⟨gb180, 0, none⟩ = some (u181000) := (blk_cell BK180.out 0).trans rfl
                    have hcz40_1 : wc.cell? ⟨gb180, 1, none⟩ = some (u181001) := (blk_cell BK180.out 1).trans rfl
                    have hfz40_0 := blk_frozen BK180.out 0
                    have hfz40_1 := blk_frozen BK180.out 1
                    obtain ⟨Ao41, co41, eo41⟩ := Kd.R_slice HO_181000.out
                    subst eo41
                    obtain ⟨Ao42, co42, eo42⟩ := Kd.R_slice HO_181001.out
                    subst eo42
                    obtain ⟨Ao43, co43, eo43⟩ := Kd.V_slice HO_11.out
                    subst eo43
                    go_wp2_with (first | ((with_reducible refine gate_callee (f := 12) rfl ?_); refine goesL_ (some 37) rfl rfl Try.func12 (by kernel_rfl) rfl #[.agg #[.slice Ao41 x181000_1.length co41, .slice Ao42 x181001_1.length co42], .slice Ao43 x11_9.length co43] rfl (by (try simp only [List.map_toArray, List.map_cons, List.map_nil]); first | done | rfl | (simp only [List.length_drop, List.length_take]; rfl)) ?_; (with_reducible refine (disk_Write.calls _ _ x181000_1 _ _ x181001_1 _ _ x11_9 t187 t190 t193 _ ?side1 ?side2 ?side3 ?side4 ?side5 ?side6 A14.out).mono ?_); (case side1 => exact pC (Kd.R_reads' HO_181000.out).2.2); (case side2 => exact (Kd.R_reads' HO_181000.out).2.1); (case side3 => exact pC (Kd.R_reads' HO_181001.out).2.2); (case side4 => exact (Kd.R_reads' HO_181001.out).2.1); (case side5 => exact pC (Kd.V_reads' HO_11.out).2.2); (case side6 => exact (Kd.V_reads' HO_11.out).2.1); rintro e w44 ⟨v188, v191, rfl, ho0, ho1, hb⟩; refine ⟨_, rfl, ?_⟩; have n0_ := Aside0.mk (Kd.V_mono (Kd.V_told (Kd.V_told (Kd.V_old (by exact pV HO_0.out) hb) (Kd.R_base ho0)) (Kd.R_base ho1)) (fun _ h_ => h_.1)); have n1_ := Aside0.mk (Kd.R_mono (Kd.R_told (Kd.R_told (Kd.R_old (by exact pR HO_8.out) hb) (Kd.R_base ho0)) (Kd.R_base ho1)) (fun _ h_ => h_.1)); have n2_ := Aside0.mk (Kd.V_mono (Kd.V_told (Kd.V_told (Kd.V_old (by exact pV HO_11.out) hb) (Kd.R_base ho0)) (Kd.R_base ho1)) (fun _ h_ => h_.1)); have n3_ := Aside0.mk (Kd.R_mono (Kd.R_told (Kd.R_told (Kd.R_old (by exact pR HO_181000.out) hb) (Kd.R_base ho0)) (Kd.R_base ho1)) (fun _ h_ => h_.1)); have n4_ := Aside0.mk (Kd.R_mono (Kd.R_told (Kd.R_told (Kd.R_old (by exact pR HO_181001.out) hb) (Kd.R_base ho0)) (Kd.R_base ho1)) (fun _ h_ => h_.1)); have n5_ := Aside0.mk (Kd.R_lower (Kd.R_new' (Kd.R_new' (Kd.R_new' (Kd.R_newM (M := fun k_ => (w.heap.size ≤ k_)) ho0 (below_size (by exact pB HB.out)) (fun k_ h_ => h_)) (Kd.R_lt (by exact pR HO_8.out))) (Kd.R_lt (by exact pR HO_181000.out))) (Kd.R_lt (by exact pR HO_181001.out))) (below_size (by exact pB HB.out))); have n6_ := Aside0.mk (Kd.R_lower (Kd.R_new' (Kd.R_new' (Kd.R_new' (Kd.R_newM (M := fun k_ => (w.heap.size ≤ k_)) ho1 (below_size (by exact pB HB.out)) (fun k_ h_ => h_)) (Kd.R_lt (by exact pR HO_8.out))) (Kd.R_lt (by exact pR HO_181000.out))) (Kd.R_lt (by exact pR HO_181001.out))) (below_size (by exact pB HB.out))); have n7_ := Aside0.mk (blk_below (g := gb180) (o := .cells #[.slice Ao41 x181000_1.length co41, .slice Ao42 x181001_1.length co42] 24 (0, 0)) (by exact pK BK180.out) hb); have n8_ := Aside0.mk (Kd.C_below (by exact pC HR181_0.out) hb); have n9_ := Aside0.mk (below_step (by exact pB HB.out) hb); clear HO_0; clear HO_8; clear HO_11; clear HO_181000; clear HO_181001; clear BK180; clear HR181_0; clear HB; have HO_0 := n0_; have HO_8 := n1_; have HO_11 := n2_; have HO_181000 := n3_; have HO_181001 := n4_; have HO189 := n5_; have HO192 := n6_; have BK180 := n7_; have HR181_0 := n8_; have HB := n9_; clear n0_ n1_ n2_ n3_ n4_ n5_ n6_ n7_ n8_ n9_; (try clear hb); (try clear hb2); (try clear hk); (try clear hi); (try clear ho0); (try clear ho1)) | ((with_reducible refine gate_dst (N := 12) rfl ?_); (try (refine gate_guard (by rfl) ?_; dsimp only)); refine box_event ?hg (N := 12) ?hd (cs := #[.slice none 0 0, .slice none 0 0]) (t := 24) ?hr ?_; (case hd => rfl); (case hg => rfl); (case hr => first | (go_simp; done) | (go_simp; rfl)); intro gb194 hg w45 hbox hb; have n0_ := Aside0.mk (Kd.V_below (Kd.V_elderB (by exact pV HO_0.out) gb194 (Nat.le_of_eq hg.symm)) hb); have n1_ := Aside0.mk (Kd.R_below (by exact pR HO_8.out) hb); have n2_ := Aside0.mk (Kd.V_below (Kd.V_elderB (by exact pV HO_11.out) gb194 (Nat.le_of_eq hg.symm)) hb); have n3_ := Aside0.mk (Kd.R_below (by exact pR HO_181000.out) hb); have n4_ := Aside0.mk (Kd.R_below (by exact pR HO_181001.out) hb); have n5_ := Aside0.mk (Kd.R_below (by exact pR HO189.out) hb); have n6_ := Aside0.mk (Kd.R_below (by exact pR HO192.out) hb); have n7_ := Aside0.mk (blk_below (g := gb180) (o := .cells #[.slice Ao41 x181000_1.length co41, .slice Ao42 x181001_1.length co42] 24 (0, 0)) (by exact pK BK180.out) hb); have n8_ := Aside0.mk (Kd.C_below (by exact pC HR181_0.out) hb); have n9_ := Aside0.mk (below_step (by exact pB HB.out) hb); have n10_ := Aside0.mk (hbox); have n11_ := Aside0.mk ((by rw [hg]; exact (below_size (by exact pB HB.out)) : w.heap.size ≤ gb194)); have n12_ := Aside0.mk ((by rw [hg]; exact (below_size (by exact pB HB.out)) : w.heap.size ≤ gb194)); have n13_ := Aside0.mk ((by rw [hg]; exact Nat.ne_of_lt (blk_lt (g := gb180) (o := .cells #[.slice Ao41 x181000_1.length co41, .slice Ao42 x181001_1.length co42] 24 (0, 0)) (by exact pK BK180.out)) : gb180 ≠ gb194)); have n14_ := Aside0.mk ((by rw [hg]; exact Nat.ne_of_gt (blk_lt (g := gb180) (o := .cells #[.slice Ao41 x181000_1.length co41, .slice Ao42 x181001_1.length co42] 24 (0, 0)) (by exact pK BK180.out)) : gb194 ≠ gb180)); clear HO_0; clear HO_8; clear HO_11; clear HO_181000; clear HO_181001; clear HO189; clear HO192; clear BK180; clear HR181_0; clear HB; have HO_0 := n0_; have HO_8 := n1_; have HO_11 := n2_; have HO_181000 := n3_; have HO_181001 := n4_; have HO189 := n5_; have HO192 := n6_; have BK180 := n7_; have HR181_0 := n8_; have HB := n9_; have BK194 := n10_; have GW194 := n11_; have GE194 := n12_; have NB180_194 := n13_; have NB194_180 := n14_; clear n0_ n1_ n2_ n3_ n4_ n5_ n6_ n7_ n8_ n9_ n10_ n11_ n12_ n13_ n14_; clear hb hbox hg; obtain ⟨Ao46, co46, eo46⟩ := Kd.R_slice HO189.out; subst eo46; have hnb47 := NB194_180.out; have hnc47 := NB180_194.out; have hcz48_0 : w45.cell? ⟨gb194, 0, none⟩ = some (.slice none 0 0) := (blk_cell BK194.out 0).trans rfl; have hcz48_1 : w45.cell? ⟨gb194, 1, none⟩ = some (.slice none 0 0) := (blk_cell BK194.out 1).trans rfl; have hfz48_0 := blk_frozen BK194.out 0; have hfz48_1 := blk_frozen BK194.out 1; obtain ⟨Ao49, co49, eo49⟩ := Kd.R_slice HO192.out; subst eo49; have hcz50_0 : w45.cell? ⟨gb180, 0, none⟩ = some (.slice Ao41 x181000_1.length co41) := (blk_cell BK180.out 0).trans rfl; have hcz50_1 : w45.cell? ⟨gb180, 1, none⟩ = some (.slice Ao42 x181001_1.length co42) := (blk_cell BK180.out 1).trans rfl; have hfz50_0 := blk_frozen BK180.out 0; have hfz50_1 := blk_frozen BK180.out 1) | ((with_reducible refine gate_builtin (b := .append) (xs := #[.tmp 43, .tmp 44]) rfl ?_); (try (refine gate_guard (by rfl) ?_; dsimp only)); at_builtin; refine Kd.R_append_rows (Kd.int .u8) (w0 := w) w.heap.size rfl (.tmp 43) (.tmp 44) 22 5 (.int .u8 0) 1 rfl Try.underlying22 info5 rfl (by decide) (by omega) u8 x8_1 x11_9 _ _ _ (fun k_ => (w.heap.size ≤ k_) ∧ some k_ ≠ (.slice Ao41 x181000_1.length co41 : Value).ownBlock ∧ some k_ ≠ (.slice Ao42 x181001_1.length co42 : Value).ownBlock ∧ some k_ ≠ (.slice Ao46 t187.length co46 : Value).ownBlock ∧ some k_ ≠ (.slice Ao49 t190.length co49 : Value).ownBlock) (fun _ => False) rfl rfl ?aO ?aR (fun _ _ h => h) (fun _ h => h.elim) ?aF ?aB ?aS ?aL ?_; (case aR => refine (Kd.V_reads' (e := 5) (base := w.heap.size) (ok := fun k_ => (((((P0_ k_ ∨ w.heap.size ≤ k_) ∧ (some k_ ≠ (u8 : Value).ownBlock ∧ (some k_ ≠ (.slice Ao41 x181000_1.length co41 : Value).ownBlock ∧ (some k_ ≠ (.slice Ao42 x181001_1.length co42 : Value).ownBlock ∧ k_ ≠ gb180)))) ∧ some k_ ≠ (.slice Ao46 t187.length co46 : Value).ownBlock) ∧ some k_ ≠ (.slice Ao49 t190.length co49 : Value).ownBlock) ∧ k_ ≠ gb194)) (n := x11_9.length) (c := co43) ?_).2.2; exact (by (with_reducible repeat (first | apply Kd.V_alloc | apply Kd.V_drewN | apply Kd.V_drew)); exact (Kd.V_mono (Kd.V_mono (Kd.V_far (p := ⟨gb180, 1, none⟩) (Kd.V_far (p := ⟨gb180, 0, none⟩) (Kd.V_far (p := ⟨gb194, 1, none⟩) (Kd.V_far (p := ⟨gb194, 0, none⟩) (Kd.V_mono (Kd.V_mono HO_11.out (fun k_ hk => (⟨hk, hk.2⟩ : _ ∧ k_ ≠ gb194))) (fun k_ hk => (⟨hk, hk.1.1.1.1.2.2.2.2⟩ : _ ∧ k_ ≠ gb180))) (fun _ hk => hk.1.2) (.slice Ao46 t187.length co46)) (fun _ hk => hk.1.2) (.slice Ao49 t190.length co49)) (fun _ hk => hk.2) (.slice Ao46 t187.length co46)) (fun _ hk => hk.2) (.slice Ao49 t190.length co49)) (fun _ h_ => h_.1)) (fun _ h_ => h_.1)))); (case aB => exact (by repeat (first | (with_reducible first | exact HB.out | apply below_alloc | apply pw_below_drewN | apply below_drew1 | refine below_set ?_ GE180.out | refine below_set ?_ GE194.out) | exact HB.out))); (case aF => exact (fun k_ hk => ⟨(Nat.le_trans (below_size (by repeat (first | (with_reducible first | exact HB.out | apply below_alloc | apply pw_below_drewN | apply below_drew1 | refine below_set ?_ GE180.out | refine below_set ?_ GE194.out) | exact HB.out))) hk), Kd.fresh' (Kd.R_lt (by (with_reducible repeat (first | apply Kd.R_alloc | apply Kd.R_drewN | apply Kd.R_drew)); exact (Kd.R_mono (Kd.R_mono (Kd.R_far (p := ⟨gb180, 1, none⟩) (Kd.R_far (p := ⟨gb180, 0, none⟩) (Kd.R_far (p := ⟨gb194, 1, none⟩) (Kd.R_far (p := ⟨gb194, 0, none⟩) (Kd.R_types (Kd.R_types HO_181000.out BK194.out (by decide)) BK180.out (by decide)) (fun _ hk => hk.1.2) (.slice Ao46 t187.length co46)) (fun _ hk => hk.1.2) (.slice Ao49 t190.length co49)) (fun _ hk => hk.2) (.slice Ao46 t187.length co46)) (fun _ hk => hk.2) (.slice Ao49 t190.length co49)) (fun _ h_ => h_.1)) (fun _ h_ => h_.1)))) k_ hk, Kd.fresh' (Kd.R_lt (by (with_reducible repeat (first | apply Kd.R_alloc | apply Kd.R_drewN | apply Kd.R_drew)); exact (Kd.R_mono (Kd.R_mono (Kd.R_far (p := ⟨gb180, 1, none⟩) (Kd.R_far (p := ⟨gb180, 0, none⟩) (Kd.R_far (p := ⟨gb194, 1, none⟩) (Kd.R_far (p := ⟨gb194, 0, none⟩) (Kd.R_types (Kd.R_types HO_181001.out BK194.out (by decide)) BK180.out (by decide)) (fun _ hk => hk.1.2) (.slice Ao46 t187.length co46)) (fun _ hk => hk.1.2) (.slice Ao49 t190.length co49)) (fun _ hk => hk.2) (.slice Ao46 t187.length co46)) (fun _ hk => hk.2) (.slice Ao49 t190.length co49)) (fun _ h_ => h_.1)) (fun _ h_ => h_.1)))) k_ hk, Kd.fresh' (Kd.R_lt (by (with_reducible repeat (first | apply Kd.R_alloc | apply Kd.R_drewN | apply Kd.R_drew)); exact (Kd.R_mono (Kd.R_mono (Kd.R_far (p := ⟨gb180, 1, none⟩) (Kd.R_far (p := ⟨gb180, 0, none⟩) (Kd.R_far (p := ⟨gb194, 1, none⟩) (Kd.R_far (p := ⟨gb194, 0, none⟩) (Kd.R_types (Kd.R_types HO189.out BK194.out (by decide)) BK180.out (by decide)) (fun _ hk => hk.1.2) (.slice Ao46 t187.length co46)) (fun _ hk => hk.1.2) (.slice Ao49 t190.length co49)) (fun _ hk => hk.2) (.slice Ao46 t187.length co46)) (fun _ hk => hk.2) (.slice Ao49 t190.length co49)) (fun _ h_ => h_.1)) (fun _ h_ => h_.1)))) k_ hk, Kd.fresh' (Kd.R_lt (by (with_reducible repeat (first | apply Kd.R_alloc | apply Kd.R_drewN | apply Kd.R_drew)); exact (Kd.R_mono (Kd.R_mono (Kd.R_far (p := ⟨gb180, 1, none⟩) (Kd.R_far (p := ⟨gb180, 0, none⟩) (Kd.R_far (p := ⟨gb194, 1, none⟩) (Kd.R_far (p := ⟨gb194, 0, none⟩) (Kd.R_types (Kd.R_types HO192.out BK194.out (by decide)) BK180.out (by decide)) (fun _ hk => hk.1.2) (.slice Ao46 t187.length co46)) (fun _ hk => hk.1.2) (.slice Ao49 t190.length co49)) (fun _ hk => hk.2) (.slice Ao46 t187.length co46)) (fun _ hk => hk.2) (.slice Ao49 t190.length co49)) (fun _ h_ => h_.1)) (fun _ h_ => h_.1)))) k_ hk⟩)); (case aO => exact (by (with_reducible repeat (first | apply Kd.R_alloc | apply Kd.R_drewN | apply Kd.R_drew)); exact Kd.R_mono (Kd.R_far (p := ⟨gb180, 1, none⟩) (Kd.R_far (p := ⟨gb180, 0, none⟩) (Kd.R_far (p := ⟨gb194, 1, none⟩) (Kd.R_far (p := ⟨gb194, 0, none⟩) (Kd.R_types (Kd.R_types HO_8.out BK194.out (by decide)) BK180.out (by decide)) (fun _ hk => hk.1.2) (.slice Ao46 t187.length co46)) (fun _ hk => hk.1.2) (.slice Ao49 t190.length co49)) (fun _ hk => hk.2) (.slice Ao46 t187.length co46)) (fun _ hk => hk.2) (.slice Ao49 t190.length co49)) (fun _ hk => ⟨hk.1.1.1.1.1, ⟨hk.1.1.1.1.2.1, ⟨hk.1.1.1.1.2.2, ⟨hk.1.1.1.2, hk.1.1.2⟩⟩⟩⟩))); (case aS => exact (below_size (by repeat (first | (with_reducible first | exact HB.out | apply below_alloc | apply pw_below_drewN | apply below_drew1 | refine below_set ?_ GE180.out | refine below_set ?_ GE194.out) | exact HB.out)))); (case aL => have := LMc16.out; omega); intro v196 w51 ho hb hg hat; rw [← Ny195.out] at ho; have n0_ := Aside0.mk (Kd.V_afterv (ok := (fun k_ => (P0_ k_ ∨ w.heap.size ≤ k_) ∧ some k_ ≠ (.slice Ao41 x181000_1.length co41 : Value).ownBlock ∧ some k_ ≠ (.slice Ao42 x181001_1.length co42 : Value).ownBlock ∧ some k_ ≠ (.slice Ao46 t187.length co46 : Value).ownBlock ∧ some k_ ≠ (.slice Ao49 t190.length co49 : Value).ownBlock ∧ k_ ≠ gb180 ∧ k_ ≠ gb194)) (by (with_reducible repeat (first | apply Kd.V_alloc | apply Kd.V_drewN | apply Kd.V_drew)); exact Kd.V_mono (Kd.V_far (p := ⟨gb180, 1, none⟩) (Kd.V_far (p := ⟨gb180, 0, none⟩) (Kd.V_far (p := ⟨gb194, 1, none⟩) (Kd.V_far (p := ⟨gb194, 0, none⟩) (Kd.V_mono (Kd.V_mono HO_0.out (fun k_ hk => (⟨hk, hk.2⟩ : _ ∧ k_ ≠ gb194))) (fun k_ hk => (⟨hk, hk.1.1.1.1.2.2.2.2⟩ : _ ∧ k_ ≠ gb180))) (fun _ hk => hk.1.2) (.slice Ao46 t187.length co46)) (fun _ hk => hk.1.2) (.slice Ao49 t190.length co49)) (fun _ hk => hk.2) (.slice Ao46 t187.length co46)) (fun _ hk => hk.2) (.slice Ao49 t190.length co49)) (fun _ hk => ⟨⟨hk.1.1.1.1.1.1, ⟨hk.1.1.1.1.1.2.2.1, ⟨hk.1.1.1.1.1.2.2.2.1, ⟨hk.1.1.1.1.2, ⟨hk.1.1.1.2, ⟨hk.1.1.1.1.1.2.2.2.2, hk.1.1.2⟩⟩⟩⟩⟩⟩, hk.1.1.1.1.1.2.1⟩)) hg hat); have n1_ := Aside0.mk (Kd.V_afterv (ok := (fun k_ => (P0_ k_ ∨ w.heap.size ≤ k_) ∧ some k_ ≠ (.slice Ao41 x181000_1.length co41 : Value).ownBlock ∧ some k_ ≠ (.slice Ao42 x181001_1.length co42 : Value).ownBlock ∧ some k_ ≠ (.slice Ao46 t187.length co46 : Value).ownBlock ∧ some k_ ≠ (.slice Ao49 t190.length co49 : Value).ownBlock ∧ k_ ≠ gb180 ∧ k_ ≠ gb194)) (by (with_reducible repeat (first | apply Kd.V_alloc | apply Kd.V_drewN | apply Kd.V_drew)); exact Kd.V_mono (Kd.V_far (p := ⟨gb180, 1, none⟩) (Kd.V_far (p := ⟨gb180, 0, none⟩) (Kd.V_far (p := ⟨gb194, 1, none⟩) (Kd.V_far (p := ⟨gb194, 0, none⟩) (Kd.V_mono (Kd.V_mono HO_11.out (fun k_ hk => (⟨hk, hk.2⟩ : _ ∧ k_ ≠ gb194))) (fun k_ hk => (⟨hk, hk.1.1.1.1.2.2.2.2⟩ : _ ∧ k_ ≠ gb180))) (fun _ hk => hk.1.2) (.slice Ao46 t187.length co46)) (fun _ hk => hk.1.2) (.slice Ao49 t190.length co49)) (fun _ hk => hk.2) (.slice Ao46 t187.length co46)) (fun _ hk => hk.2) (.slice Ao49 t190.length co49)) (fun _ hk => ⟨⟨hk.1.1.1.1.1.1, ⟨hk.1.1.1.1.1.2.2.1, ⟨hk.1.1.1.1.1.2.2.2.1, ⟨hk.1.1.1.1.2, ⟨hk.1.1.1.2, ⟨hk.1.1.1.1.1.2.2.2.2, hk.1.1.2⟩⟩⟩⟩⟩⟩, hk.1.1.1.1.1.2.1⟩)) hg hat); have n2_ := Aside0.mk (Kd.R_after (ok := (fun k_ => (w.heap.size ≤ k_) ∧ some k_ ≠ (.slice Ao42 x181001_1.length co42 : Value).ownBlock ∧ some k_ ≠ (.slice Ao46 t187.length co46 : Value).ownBlock ∧ some k_ ≠ (.slice Ao49 t190.length co49 : Value).ownBlock)) (by (with_reducible repeat (first | apply Kd.R_alloc | apply Kd.R_drewN | apply Kd.R_drew)); exact Kd.R_mono (Kd.R_far (p := ⟨gb180, 1, none⟩) (Kd.R_far (p := ⟨gb180, 0, none⟩) (Kd.R_far (p := ⟨gb194, 1, none⟩) (Kd.R_far (p := ⟨gb194, 0, none⟩) (Kd.R_types (Kd.R_types HO_181000.out BK194.out (by decide)) BK180.out (by decide)) (fun _ hk => hk.1.2) (.slice Ao46 t187.length co46)) (fun _ hk => hk.1.2) (.slice Ao49 t190.length co49)) (fun _ hk => hk.2) (.slice Ao46 t187.length co46)) (fun _ hk => hk.2) (.slice Ao49 t190.length co49)) (fun _ hk => ⟨⟨hk.1.1.1.1.1, ⟨hk.1.1.1.1.2.2, ⟨hk.1.1.1.2, hk.1.1.2⟩⟩⟩, hk.1.1.1.1.2.1⟩)) hg hat); have n3_ := Aside0.mk (Kd.R_after (ok := (fun k_ => (w.heap.size ≤ k_) ∧ some k_ ≠ (.slice Ao41 x181000_1.length co41 : Value).ownBlock ∧ some k_ ≠ (.slice Ao46 t187.length co46 : Value).ownBlock ∧ some k_ ≠ (.slice Ao49 t190.length co49 : Value).ownBlock)) (by (with_reducible repeat (first | apply Kd.R_alloc | apply Kd.R_drewN | apply Kd.R_drew)); exact Kd.R_mono (Kd.R_far (p := ⟨gb180, 1, none⟩) (Kd.R_far (p := ⟨gb180, 0, none⟩) (Kd.R_far (p := ⟨gb194, 1, none⟩) (Kd.R_far (p := ⟨gb194, 0, none⟩) (Kd.R_types (Kd.R_types HO_181001.out BK194.out (by decide)) BK180.out (by decide)) (fun _ hk => hk.1.2) (.slice Ao46 t187.length co46)) (fun _ hk => hk.1.2) (.slice Ao49 t190.length co49)) (fun _ hk => hk.2) (.slice Ao46 t187.length co46)) (fun _ hk => hk.2) (.slice Ao49 t190.length co49)) (fun _ hk => ⟨⟨hk.1.1.1.1.1, ⟨hk.1.1.1.1.2.2, ⟨hk.1.1.1.2, hk.1.1.2⟩⟩⟩, hk.1.1.1.1.2.1⟩)) hg hat); have n4_ := Aside0.mk (blk_grown (g := gb180) (o := .cells #[.slice Ao46 t187.length co46, .slice Ao49 t190.length co49] 24 (0, 0)) (by (with_reducible repeat (first | refine blk_drewN ?_ _ | refine blk_drew ?_ | refine blk_alloc ?_ _)); refine blk_put (cs := #[.slice Ao46 t187.length co46, .slice Ao42 x181001_1.length co42]) ?_ 1 _ rfl; (with_reducible repeat (first | refine blk_drewN ?_ _ | refine blk_drew ?_ | refine blk_alloc ?_ _)); refine blk_put (cs := #[.slice Ao41 x181000_1.length co41, .slice Ao42 x181001_1.length co42]) ?_ 0 _ rfl; (with_reducible repeat (first | refine blk_drewN ?_ _ | refine blk_drew ?_ | refine blk_alloc ?_ _)); refine blk_far ?_ NB180_194.out _; (with_reducible repeat (first | refine blk_drewN ?_ _ | refine blk_drew ?_ | refine blk_alloc ?_ _)); refine blk_far ?_ NB180_194.out _; (with_reducible repeat (first | refine blk_drewN ?_ _ | refine blk_drew ?_ | refine blk_alloc ?_ _)); exact BK180.out) hg (Kd.R_ne HO_8.out BK180.out (by decide))); have n5_ := Aside0.mk (Kd.R_after (ok := (fun k_ => (w.heap.size ≤ k_) ∧ some k_ ≠ (.slice Ao41 x181000_1.length co41 : Value).ownBlock ∧ some k_ ≠ (.slice Ao42 x181001_1.length co42 : Value).ownBlock ∧ some k_ ≠ (.slice Ao49 t190.length co49 : Value).ownBlock)) (by (with_reducible repeat (first | apply Kd.R_alloc | apply Kd.R_drewN | apply Kd.R_drew)); exact Kd.R_mono (Kd.R_far (p := ⟨gb180, 1, none⟩) (Kd.R_far (p := ⟨gb180, 0, none⟩) (Kd.R_far (p := ⟨gb194, 1, none⟩) (Kd.R_far (p := ⟨gb194, 0, none⟩) (Kd.R_types (Kd.R_types HO189.out BK194.out (by decide)) BK180.out (by decide)) (fun _ hk => hk.1.2) (.slice Ao46 t187.length co46)) (fun _ hk => hk.1.2) (.slice Ao49 t190.length co49)) (fun _ hk => hk.2) (.slice Ao46 t187.length co46)) (fun _ hk => hk.2) (.slice Ao49 t190.length co49)) (fun _ hk => ⟨⟨hk.1.1.1.1.1.1, ⟨hk.1.1.1.2, ⟨hk.1.1.2, hk.1.1.1.1.1.2⟩⟩⟩, hk.1.1.1.1.2⟩)) hg hat); have n6_ := Aside0.mk (Kd.R_after (ok := (fun k_ => (w.heap.size ≤ k_) ∧ some k_ ≠ (.slice Ao41 x181000_1.length co41 : Value).ownBlock ∧ some k_ ≠ (.slice Ao42 x181001_1.length co42 : Value).ownBlock ∧ some k_ ≠ (.slice Ao46 t187.length co46 : Value).ownBlock)) (by (with_reducible repeat (first | apply Kd.R_alloc | apply Kd.R_drewN | apply Kd.R_drew)); exact Kd.R_mono (Kd.R_far (p := ⟨gb180, 1, none⟩) (Kd.R_far (p := ⟨gb180, 0, none⟩) (Kd.R_far (p := ⟨gb194, 1, none⟩) (Kd.R_far (p := ⟨gb194, 0, none⟩) (Kd.R_types (Kd.R_types HO192.out BK194.out (by decide)) BK180.out (by decide)) (fun _ hk => hk.1.2) (.slice Ao46 t187.length co46)) (fun _ hk => hk.1.2) (.slice Ao49 t190.length co49)) (fun _ hk => hk.2) (.slice Ao46 t187.length co46)) (fun _ hk => hk.2) (.slice Ao49 t190.length co49)) (fun _ hk => ⟨⟨hk.1.1.1.1.1.1, ⟨hk.1.1.1.2, ⟨hk.1.1.2, hk.1.1.1.1.1.2⟩⟩⟩, hk.1.1.1.1.2⟩)) hg hat); have n7_ := Aside0.mk (blk_grown (g := gb194) (o := .cells #[.slice Ao46 t187.length co46, .slice Ao49 t190.length co49] 24 (0, 0)) (by (with_reducible repeat (first | refine blk_drewN ?_ _ | refine blk_drew ?_ | refine blk_alloc ?_ _)); refine blk_far ?_ NB194_180.out _; (with_reducible repeat (first | refine blk_drewN ?_ _ | refine blk_drew ?_ | refine blk_alloc ?_ _)); refine blk_far ?_ NB194_180.out _; (with_reducible repeat (first | refine blk_drewN ?_ _ | refine blk_drew ?_ | refine blk_alloc ?_ _)); refine blk_put (cs := #[.slice Ao46 t187.length co46, .slice none 0 0]) ?_ 1 _ rfl; (with_reducible repeat (first | refine blk_drewN ?_ _ | refine blk_drew ?_ | refine blk_alloc ?_ _)); refine blk_put (cs := #[.slice none 0 0, .slice none 0 0]) ?_ 0 _ rfl; (with_reducible repeat (first | refine blk_drewN ?_ _ | refine blk_drew ?_ | refine blk_alloc ?_ _)); exact BK194.out) hg (Kd.R_ne HO_8.out BK194.out (by decide))); have n8_ := Aside0.mk (hb); have n9_ := Aside0.mk (ho); clear HO_0; clear HO_11; clear HO_181000; clear HO_181001; clear BK180; clear HO189; clear HO192; clear BK194; clear HB; clear HO_8; have HO_0 := n0_; have HO_11 := n1_; have HO_181000 := n2_; have HO_181001 := n3_; have BK180 := n4_; have HO189 := n5_; have HO192 := n6_; have BK194 := n7_; have HB := n8_; have HO197 := n9_; clear n0_ n1_ n2_ n3_ n4_ n5_ n6_ n7_ n8_ n9_; clear ho hb hg hat; have p198 : 0 ≤ (x10_1 : Int) := of_decide_eq_true (by first | (with_reducible assumption) | assumption); have q198 : x10_1 < (l1.length : Int) := of_decide_eq_true (by first | (with_reducible assumption) | assumption); obtain ⟨ad198, e198, hx198_0⟩ := Kd.at_bool HR1.out x10_1 p198 q198; (try rw [← Nbq19.out] at hx198_0); cases e198; replace hx198_0 := (HB.out.cell (World.block_lt_of_cell? w _ hx198_0)).trans hx198_0; replace p198 := eq_true p198; replace q198 := eq_true q198))
                    go_roundg kj9
                    case measure => have := HK1.out; have := HJ4.out; have := HJ9.out; omega
                    case rel => exact ⟨(y195), (x9_1), (wrap64 (x10_1 + 1)), (t187), (t190), (.slice Ao46 t187.length co46), (.slice Ao49 t190.length co49), (by first | rfl | (simp; done) | (simp [*]; done)), (by first | rfl | (simp; done) | (simp [*]; done)), H', ⟨by have := HK1.out; have := HJ4.out; have := HJ9.out; omega⟩, ⟨by exact pV (Kd.V_mono HO_0.out (fun _ hk => ⟨hk.1.1, ⟨hk.2, ⟨hk.1.2.2.2.1, ⟨hk.1.2.2.2.2.1, hk.1.2.2.2.2.2.1⟩⟩⟩⟩))⟩, ⟨by exact pR (Kd.R_mono HO197.out (fun _ hk => ⟨hk.1, ⟨hk.2.2.2.1, hk.2.2.2.2⟩⟩))⟩, ⟨by exact pR (Kd.R_mono HO189.out (fun _ hk => ⟨hk.1.1, ⟨hk.2, hk.1.2.2.2⟩⟩))⟩, ⟨by exact pR (Kd.R_mono HO192.out (fun _ hk => ⟨hk.1.1, ⟨hk.2, hk.1.2.2.2⟩⟩))⟩, ⟨by exact pK BK180.out⟩, ⟨by exact pB HB.out⟩⟩
                · rw [if_neg c17] at H
                  have c17b0 : decide (x10_1 < (l1.length : Int)) = false := decide_eq_false c17
                  clear c17
                  have H' := Aside0.mk H
                  clear H
                  have hcz52_0 : wc.cell? ⟨gb180, 0, none⟩ = some (u181000) := (blk_cell BK180.out 0).trans rfl
                  have hcz52_1 : wc.cell? ⟨gb180, 1, none⟩ = some (u181001) := (blk_cell BK180.out 1).trans rfl
                  have hfz52_0 := blk_frozen BK180.out 0
                  have hfz52_1 := blk_frozen BK180.out 1
                  obtain ⟨Ao53, co53, eo53⟩ := Kd.R_slice HO_181000.out
                  subst eo53
                  obtain ⟨Ao54, co54, eo54⟩ := Kd.R_slice HO_181001.out
                  subst eo54
                  obtain ⟨Ao55, co55, eo55⟩ := Kd.V_slice HO_11.out
                  subst eo55
                  go_wp2_with (first | ((with_reducible refine gate_callee (f := 12) rfl ?_); refine goesL_ (some 37) rfl rfl Try.func12 (by kernel_rfl) rfl #[.agg #[.slice Ao53 x181000_1.length co53, .slice Ao54 x181001_1.length co54], .slice Ao55 x11_9.length co55] rfl (by (try simp only [List.map_toArray, List.map_cons, List.map_nil]); first | done | rfl | (simp only [List.length_drop, List.length_take]; rfl)) ?_; (with_reducible refine (disk_Write.calls _ _ x181000_1 _ _ x181001_1 _ _ x11_9 t187 t190 t193 _ ?side1 ?side2 ?side3 ?side4 ?side5 ?side6 A14.out).mono ?_); (case side1 => exact pC (Kd.R_reads' HO_181000.out).2.2); (case side2 => exact (Kd.R_reads' HO_181000.out).2.1); (case side3 => exact pC (Kd.R_reads' HO_181001.out).2.2); (case side4 => exact (Kd.R_reads' HO_181001.out).2.1); (case side5 => exact pC (Kd.V_reads' HO_11.out).2.2); (case side6 => exact (Kd.V_reads' HO_11.out).2.1); rintro e w56 ⟨v188, v191, rfl, ho0, ho1, hb⟩; refine ⟨_, rfl, ?_⟩; have n0_ := Aside0.mk (Kd.V_mono (Kd.V_told (Kd.V_told (Kd.V_old (by exact pV HO_0.out) hb) (Kd.R_base ho0)) (Kd.R_base ho1)) (fun _ h_ => h_.1)); have n1_ := Aside0.mk (Kd.R_mono (Kd.R_told (Kd.R_told (Kd.R_old (by exact pR HO_8.out) hb) (Kd.R_base ho0)) (Kd.R_base ho1)) (fun _ h_ => h_.1)); have n2_ := Aside0.mk (Kd.V_mono (Kd.V_told (Kd.V_told (Kd.V_old (by exact pV HO_11.out) hb) (Kd.R_base ho0)) (Kd.R_base ho1)) (fun _ h_ => h_.1)); have n3_ := Aside0.mk (Kd.R_mono (Kd.R_told (Kd.R_told (Kd.R_old (by exact pR HO_181000.out) hb) (Kd.R_base ho0)) (Kd.R_base ho1)) (fun _ h_ => h_.1)); have n4_ := Aside0.mk (Kd.R_mono (Kd.R_told (Kd.R_told (Kd.R_old (by exact pR HO_181001.out) hb) (Kd.R_base ho0)) (Kd.R_base ho1)) (fun _ h_ => h_.1)); have n5_ := Aside0.mk (Kd.R_lower (Kd.R_new' (Kd.R_new' (Kd.R_new' (Kd.R_newM (M := fun k_ => (w.heap.size ≤ k_)) ho0 (below_size (by exact pB HB.out)) (fun k_ h_ => h_)) (Kd.R_lt (by exact pR HO_8.out))) (Kd.R_lt (by exact pR HO_181000.out))) (Kd.R_lt (by exact pR HO_181001.out))) (below_size (by exact pB HB.out))); have n6_ := Aside0.mk (Kd.R_lower (Kd.R_new' (Kd.R_new' (Kd.R_new' (Kd.R_newM (M := fun k_ => (w.heap.size ≤ k_)) ho1 (below_size (by exact pB HB.out)) (fun k_ h_ => h_)) (Kd.R_lt (by exact pR HO_8.out))) (Kd.R_lt (by exact pR HO_181000.out))) (Kd.R_lt (by exact pR HO_181001.out))) (below_size (by exact pB HB.out))); have n7_ := Aside0.mk (blk_below (g := gb180) (o := .cells #[.slice Ao53 x181000_1.length co53, .slice Ao54 x181001_1.length co54] 24 (0, 0)) (by exact pK BK180.out) hb); have n8_ := Aside0.mk (Kd.C_below (by exact pC HR181_0.out) hb); have n9_ := Aside0.mk (below_step (by exact pB HB.out) hb); clear HO_0; clear HO_8; clear HO_11; clear HO_181000; clear HO_181001; clear BK180; clear HR181_0; clear HB; have HO_0 := n0_; have HO_8 := n1_; have HO_11 := n2_; have HO_181000 := n3_; have HO_181001 := n4_; have HO189 := n5_; have HO192 := n6_; have BK180 := n7_; have HR181_0 := n8_; have HB := n9_; clear n0_ n1_ n2_ n3_ n4_ n5_ n6_ n7_ n8_ n9_; (try clear hb); (try clear hb2); (try clear hk); (try clear hi); (try clear ho0); (try clear ho1)) | ((with_reducible refine gate_dst (N := 12) rfl ?_); (try (refine gate_guard (by rfl) ?_; dsimp only)); refine box_event ?hg (N := 12) ?hd (cs := #[.slice none 0 0, .slice none 0 0]) (t := 24) ?hr ?_; (case hd => rfl); (case hg => rfl); (case hr => first | (go_simp; done) | (go_simp; rfl)); intro gb194 hg w57 hbox hb; have n0_ := Aside0.mk (Kd.V_below (Kd.V_elderB (by exact pV HO_0.out) gb194 (Nat.le_of_eq hg.symm)) hb); have n1_ := Aside0.mk (Kd.R_below (by exact pR HO_8.out) hb); have n2_ := Aside0.mk (Kd.V_below (Kd.V_elderB (by exact pV HO_11.out) gb194 (Nat.le_of_eq hg.symm)) hb); have n3_ := Aside0.mk (Kd.R_below (by exact pR HO_181000.out) hb); have n4_ := Aside0.mk (Kd.R_below (by exact pR HO_181001.out) hb); have n5_ := Aside0.mk (Kd.R_below (by exact pR HO189.out) hb); have n6_ := Aside0.mk (Kd.R_below (by exact pR HO192.out) hb); have n7_ := Aside0.mk (blk_below (g := gb180) (o := .cells #[.slice Ao53 x181000_1.length co53, .slice Ao54 x181001_1.length co54] 24 (0, 0)) (by exact pK BK180.out) hb); have n8_ := Aside0.mk (Kd.C_below (by exact pC HR181_0.out) hb); have n9_ := Aside0.mk (below_step (by exact pB HB.out) hb); have n10_ := Aside0.mk (hbox); have n11_ := Aside0.mk ((by rw [hg]; exact (below_size (by exact pB HB.out)) : w.heap.size ≤ gb194)); have n12_ := Aside0.mk ((by rw [hg]; exact (below_size (by exact pB HB.out)) : w.heap.size ≤ gb194)); have n13_ := Aside0.mk ((by rw [hg]; exact Nat.ne_of_lt (blk_lt (g := gb180) (o := .cells #[.slice Ao53 x181000_1.length co53, .slice Ao54 x181001_1.length co54] 24 (0, 0)) (by exact pK BK180.out)) : gb180 ≠ gb194)); have n14_ := Aside0.mk ((by rw [hg]; exact Nat.ne_of_gt (blk_lt (g := gb180) (o := .cells #[.slice Ao53 x181000_1.length co53, .slice Ao54 x181001_1.length co54] 24 (0, 0)) (by exact pK BK180.out)) : gb194 ≠ gb180)); clear HO_0; clear HO_8; clear HO_11; clear HO_181000; clear HO_181001; clear HO189; clear HO192; clear BK180; clear HR181_0; clear HB; have HO_0 := n0_; have HO_8 := n1_; have HO_11 := n2_; have HO_181000 := n3_; have HO_181001 := n4_; have HO189 := n5_; have HO192 := n6_; have BK180 := n7_; have HR181_0 := n8_; have HB := n9_; have BK194 := n10_; have GW194 := n11_; have GE194 := n12_; have NB180_194 := n13_; have NB194_180 := n14_; clear n0_ n1_ n2_ n3_ n4_ n5_ n6_ n7_ n8_ n9_ n10_ n11_ n12_ n13_ n14_; clear hb hbox hg; obtain ⟨Ao58, co58, eo58⟩ := Kd.R_slice HO189.out; subst eo58; have hnb59 := NB194_180.out; have hnc59 := NB180_194.out; have hcz60_0 : w57.cell? ⟨gb194, 0, none⟩ = some (.slice none 0 0) := (blk_cell BK194.out 0).trans rfl; have hcz60_1 : w57.cell? ⟨gb194, 1, none⟩ = some (.slice none 0 0) := (blk_cell BK194.out 1).trans rfl; have hfz60_0 := blk_frozen BK194.out 0; have hfz60_1 := blk_frozen BK194.out 1; obtain ⟨Ao61, co61, eo61⟩ := Kd.R_slice HO192.out; subst eo61; have hcz62_0 : w57.cell? ⟨gb180, 0, none⟩ = some (.slice Ao53 x181000_1.length co53) := (blk_cell BK180.out 0).trans rfl; have hcz62_1 : w57.cell? ⟨gb180, 1, none⟩ = some (.slice Ao54 x181001_1.length co54) := (blk_cell BK180.out 1).trans rfl; have hfz62_0 := blk_frozen BK180.out 0; have hfz62_1 := blk_frozen BK180.out 1) | ((with_reducible refine gate_builtin (b := .append) (xs := #[.tmp 43, .tmp 44]) rfl ?_); (try (refine gate_guard (by rfl) ?_; dsimp only)); at_builtin; refine Kd.R_append_rows (Kd.int .u8) (w0 := w) w.heap.size rfl (.tmp 43) (.tmp 44) 22 5 (.int .u8 0) 1 rfl Try.underlying22 info5 rfl (by decide) (by omega) u8 x8_1 x11_9 _ _ _ (fun k_ => (w.heap.size ≤ k_) ∧ some k_ ≠ (.slice Ao53 x181000_1.length co53 : Value).ownBlock ∧ some k_ ≠ (.slice Ao54 x181001_1.length co54 : Value).ownBlock ∧ some k_ ≠ (.slice Ao58 t187.length co58 : Value).ownBlock ∧ some k_ ≠ (.slice Ao61 t190.length co61 : Value).ownBlock) (fun _ => False) rfl rfl ?aO ?aR (fun _ _ h => h) (fun _ h => h.elim) ?aF ?aB ?aS ?aL ?_; (case aR => refine (Kd.V_reads' (e := 5) (base := w.heap.size) (ok := fun k_ => (((((P0_ k_ ∨ w.heap.size ≤ k_) ∧ (some k_ ≠ (u8 : Value).ownBlock ∧ (some k_ ≠ (.slice Ao53 x181000_1.length co53 : Value).ownBlock ∧ (some k_ ≠ (.slice Ao54 x181001_1.length co54 : Value).ownBlock ∧ k_ ≠ gb180)))) ∧ some k_ ≠ (.slice Ao58 t187.length co58 : Value).ownBlock) ∧ some k_ ≠ (.slice Ao61 t190.length co61 : Value).ownBlock) ∧ k_ ≠ gb194)) (n := x11_9.length) (c := co55) ?_).2.2; exact (by (with_reducible repeat (first | apply Kd.V_alloc | apply Kd.V_drewN | apply Kd.V_drew)); exact (Kd.V_mono (Kd.V_mono (Kd.V_far (p := ⟨gb180, 1, none⟩) (Kd.V_far (p := ⟨gb180, 0, none⟩) (Kd.V_far (p := ⟨gb194, 1, none⟩) (Kd.V_far (p := ⟨gb194, 0, none⟩) (Kd.V_mono (Kd.V_mono HO_11.out (fun k_ hk => (⟨hk, hk.2⟩ : _ ∧ k_ ≠ gb194))) (fun k_ hk => (⟨hk, hk.1.1.1.1.2.2.2.2⟩ : _ ∧ k_ ≠ gb180))) (fun _ hk => hk.1.2) (.slice Ao58 t187.length co58)) (fun _ hk => hk.1.2) (.slice Ao61 t190.length co61)) (fun _ hk => hk.2) (.slice Ao58 t187.length co58)) (fun _ hk => hk.2) (.slice Ao61 t190.length co61)) (fun _ h_ => h_.1)) (fun _ h_ => h_.1)))); (case aB => exact (by repeat (first | (with_reducible first | exact HB.out | apply below_alloc | apply pw_below_drewN | apply below_drew1 | refine below_set ?_ GE180.out | refine below_set ?_ GE194.out) | exact HB.out))); (case aF => exact (fun k_ hk => ⟨(Nat.le_trans (below_size (by repeat (first | (with_reducible first | exact HB.out | apply below_alloc | apply pw_below_drewN | apply below_drew1 | refine below_set ?_ GE180.out | refine below_set ?_ GE194.out) | exact HB.out))) hk), Kd.fresh' (Kd.R_lt (by (with_reducible repeat (first | apply Kd.R_alloc | apply Kd.R_drewN | apply Kd.R_drew)); exact (Kd.R_mono (Kd.R_mono (Kd.R_far (p := ⟨gb180, 1, none⟩) (Kd.R_far (p := ⟨gb180, 0, none⟩) (Kd.R_far (p := ⟨gb194, 1, none⟩) (Kd.R_far (p := ⟨gb194, 0, none⟩) (Kd.R_types (Kd.R_types HO_181000.out BK194.out (by decide)) BK180.out (by decide)) (fun _ hk => hk.1.2) (.slice Ao58 t187.length co58)) (fun _ hk => hk.1.2) (.slice Ao61 t190.length co61)) (fun _ hk => hk.2) (.slice Ao58 t187.length co58)) (fun _ hk => hk.2) (.slice Ao61 t190.length co61)) (fun _ h_ => h_.1)) (fun _ h_ => h_.1)))) k_ hk, Kd.fresh' (Kd.R_lt (by (with_reducible repeat (first | apply Kd.R_alloc | apply Kd.R_drewN | apply Kd.R_drew)); exact (Kd.R_mono (Kd.R_mono (Kd.R_far (p := ⟨gb180, 1, none⟩) (Kd.R_far (p := ⟨gb180, 0, none⟩) (Kd.R_far (p := ⟨gb194, 1, none⟩) (Kd.R_far (p := ⟨gb194, 0, none⟩) (Kd.R_types (Kd.R_types HO_181001.out BK194.out (by decide)) BK180.out (by decide)) (fun _ hk => hk.1.2) (.slice Ao58 t187.length co58)) (fun _ hk => hk.1.2) (.slice Ao61 t190.length co61)) (fun _ hk => hk.2) (.slice Ao58 t187.length co58)) (fun _ hk => hk.2) (.slice Ao61 t190.length co61)) (fun _ h_ => h_.1)) (fun _ h_ => h_.1)))) k_ hk, Kd.fresh' (Kd.R_lt (by (with_reducible repeat (first | apply Kd.R_alloc | apply Kd.R_drewN | apply Kd.R_drew)); exact (Kd.R_mono (Kd.R_mono (Kd.R_far (p := ⟨gb180, 1, none⟩) (Kd.R_far (p := ⟨gb180, 0, none⟩) (Kd.R_far (p := ⟨gb194, 1, none⟩) (Kd.R_far (p := ⟨gb194, 0, none⟩) (Kd.R_types (Kd.R_types HO189.out BK194.out (by decide)) BK180.out (by decide)) (fun _ hk => hk.1.2) (.slice Ao58 t187.length co58)) (fun _ hk => hk.1.2) (.slice Ao61 t190.length co61)) (fun _ hk => hk.2) (.slice Ao58 t187.length co58)) (fun _ hk => hk.2) (.slice Ao61 t190.length co61)) (fun _ h_ => h_.1)) (fun _ h_ => h_.1)))) k_ hk, Kd.fresh' (Kd.R_lt (by (with_reducible repeat (first | apply Kd.R_alloc | apply Kd.R_drewN | apply Kd.R_drew)); exact (Kd.R_mono (Kd.R_mono (Kd.R_far (p := ⟨gb180, 1, none⟩) (Kd.R_far (p := ⟨gb180, 0, none⟩) (Kd.R_far (p := ⟨gb194, 1, none⟩) (Kd.R_far (p := ⟨gb194, 0, none⟩) (Kd.R_types (Kd.R_types HO192.out BK194.out (by decide)) BK180.out (by decide)) (fun _ hk => hk.1.2) (.slice Ao58 t187.length co58)) (fun _ hk => hk.1.2) (.slice Ao61 t190.length co61)) (fun _ hk => hk.2) (.slice Ao58 t187.length co58)) (fun _ hk => hk.2) (.slice Ao61 t190.length co61)) (fun _ h_ => h_.1)) (fun _ h_ => h_.1)))) k_ hk⟩)); (case aO => exact (by (with_reducible repeat (first | apply Kd.R_alloc | apply Kd.R_drewN | apply Kd.R_drew)); exact Kd.R_mono (Kd.R_far (p := ⟨gb180, 1, none⟩) (Kd.R_far (p := ⟨gb180, 0, none⟩) (Kd.R_far (p := ⟨gb194, 1, none⟩) (Kd.R_far (p := ⟨gb194, 0, none⟩) (Kd.R_types (Kd.R_types HO_8.out BK194.out (by decide)) BK180.out (by decide)) (fun _ hk => hk.1.2) (.slice Ao58 t187.length co58)) (fun _ hk => hk.1.2) (.slice Ao61 t190.length co61)) (fun _ hk => hk.2) (.slice Ao58 t187.length co58)) (fun _ hk => hk.2) (.slice Ao61 t190.length co61)) (fun _ hk => ⟨hk.1.1.1.1.1, ⟨hk.1.1.1.1.2.1, ⟨hk.1.1.1.1.2.2, ⟨hk.1.1.1.2, hk.1.1.2⟩⟩⟩⟩))); (case aS => exact (below_size (by repeat (first | (with_reducible first | exact HB.out | apply below_alloc | apply pw_below_drewN | apply below_drew1 | refine below_set ?_ GE180.out | refine below_set ?_ GE194.out) | exact HB.out)))); (case aL => have := LMc16.out; omega); intro v196 w63 ho hb hg hat; rw [← Ny195.out] at ho; have n0_ := Aside0.mk (Kd.V_afterv (ok := (fun k_ => (P0_ k_ ∨ w.heap.size ≤ k_) ∧ some k_ ≠ (.slice Ao53 x181000_1.length co53 : Value).ownBlock ∧ some k_ ≠ (.slice Ao54 x181001_1.length co54 : Value).ownBlock ∧ some k_ ≠ (.slice Ao58 t187.length co58 : Value).ownBlock ∧ some k_ ≠ (.slice Ao61 t190.length co61 : Value).ownBlock ∧ k_ ≠ gb180 ∧ k_ ≠ gb194)) (by (with_reducible repeat (first | apply Kd.V_alloc | apply Kd.V_drewN | apply Kd.V_drew)); exact Kd.V_mono (Kd.V_far (p := ⟨gb180, 1, none⟩) (Kd.V_far (p := ⟨gb180, 0, none⟩) (Kd.V_far (p := ⟨gb194, 1, none⟩) (Kd.V_far (p := ⟨gb194, 0, none⟩) (Kd.V_mono (Kd.V_mono HO_0.out (fun k_ hk => (⟨hk, hk.2⟩ : _ ∧ k_ ≠ gb194))) (fun k_ hk => (⟨hk, hk.1.1.1.1.2.2.2.2⟩ : _ ∧ k_ ≠ gb180))) (fun _ hk => hk.1.2) (.slice Ao58 t187.length co58)) (fun _ hk => hk.1.2) (.slice Ao61 t190.length co61)) (fun _ hk => hk.2) (.slice Ao58 t187.length co58)) (fun _ hk => hk.2) (.slice Ao61 t190.length co61)) (fun _ hk => ⟨⟨hk.1.1.1.1.1.1, ⟨hk.1.1.1.1.1.2.2.1, ⟨hk.1.1.1.1.1.2.2.2.1, ⟨hk.1.1.1.1.2, ⟨hk.1.1.1.2, ⟨hk.1.1.1.1.1.2.2.2.2, hk.1.1.2⟩⟩⟩⟩⟩⟩, hk.1.1.1.1.1.2.1⟩)) hg hat); have n1_ := Aside0.mk (Kd.V_afterv (ok := (fun k_ => (P0_ k_ ∨ w.heap.size ≤ k_) ∧ some k_ ≠ (.slice Ao53 x181000_1.length co53 : Value).ownBlock ∧ some k_ ≠ (.slice Ao54 x181001_1.length co54 : Value).ownBlock ∧ some k_ ≠ (.slice Ao58 t187.length co58 : Value).ownBlock ∧ some k_ ≠ (.slice Ao61 t190.length co61 : Value).ownBlock ∧ k_ ≠ gb180 ∧ k_ ≠ gb194)) (by (with_reducible repeat (first | apply Kd.V_alloc | apply Kd.V_drewN | apply Kd.V_drew)); exact Kd.V_mono (Kd.V_far (p := ⟨gb180, 1, none⟩) (Kd.V_far (p := ⟨gb180, 0, none⟩) (Kd.V_far (p := ⟨gb194, 1, none⟩) (Kd.V_far (p := ⟨gb194, 0, none⟩) (Kd.V_mono (Kd.V_mono HO_11.out (fun k_ hk => (⟨hk, hk.2⟩ : _ ∧ k_ ≠ gb194))) (fun k_ hk => (⟨hk, hk.1.1.1.1.2.2.2.2⟩ : _ ∧ k_ ≠ gb180))) (fun _ hk => hk.1.2) (.slice Ao58 t187.length co58)) (fun _ hk => hk.1.2) (.slice Ao61 t190.length co61)) (fun _ hk => hk.2) (.slice Ao58 t187.length co58)) (fun _ hk => hk.2) (.slice Ao61 t190.length co61)) (fun _ hk => ⟨⟨hk.1.1.1.1.1.1, ⟨hk.1.1.1.1.1.2.2.1, ⟨hk.1.1.1.1.1.2.2.2.1, ⟨hk.1.1.1.1.2, ⟨hk.1.1.1.2, ⟨hk.1.1.1.1.1.2.2.2.2, hk.1.1.2⟩⟩⟩⟩⟩⟩, hk.1.1.1.1.1.2.1⟩)) hg hat); have n2_ := Aside0.mk (Kd.R_after (ok := (fun k_ => (w.heap.size ≤ k_) ∧ some k_ ≠ (.slice Ao54 x181001_1.length co54 : Value).ownBlock ∧ some k_ ≠ (.slice Ao58 t187.length co58 : Value).ownBlock ∧ some k_ ≠ (.slice Ao61 t190.length co61 : Value).ownBlock)) (by (with_reducible repeat (first | apply Kd.R_alloc | apply Kd.R_drewN | apply Kd.R_drew)); exact Kd.R_mono (Kd.R_far (p := ⟨gb180, 1, none⟩) (Kd.R_far (p := ⟨gb180, 0, none⟩) (Kd.R_far (p := ⟨gb194, 1, none⟩) (Kd.R_far (p := ⟨gb194, 0, none⟩) (Kd.R_types (Kd.R_types HO_181000.out BK194.out (by decide)) BK180.out (by decide)) (fun _ hk => hk.1.2) (.slice Ao58 t187.length co58)) (fun _ hk => hk.1.2) (.slice Ao61 t190.length co61)) (fun _ hk => hk.2) (.slice Ao58 t187.length co58)) (fun _ hk => hk.2) (.slice Ao61 t190.length co61)) (fun _ hk => ⟨⟨hk.1.1.1.1.1, ⟨hk.1.1.1.1.2.2, ⟨hk.1.1.1.2, hk.1.1.2⟩⟩⟩, hk.1.1.1.1.2.1⟩)) hg hat); have n3_ := Aside0.mk (Kd.R_after (ok := (fun k_ => (w.heap.size ≤ k_) ∧ some k_ ≠ (.slice Ao53 x181000_1.length co53 : Value).ownBlock ∧ some k_ ≠ (.slice Ao58 t187.length co58 : Value).ownBlock ∧ some k_ ≠ (.slice Ao61 t190.length co61 : Value).ownBlock)) (by (with_reducible repeat (first | apply Kd.R_alloc | apply Kd.R_drewN | apply Kd.R_drew)); exact Kd.R_mono (Kd.R_far (p := ⟨gb180, 1, none⟩) (Kd.R_far (p := ⟨gb180, 0, none⟩) (Kd.R_far (p := ⟨gb194, 1, none⟩) (Kd.R_far (p := ⟨gb194, 0, none⟩) (Kd.R_types (Kd.R_types HO_181001.out BK194.out (by decide)) BK180.out (by decide)) (fun _ hk => hk.1.2) (.slice Ao58 t187.length co58)) (fun _ hk => hk.1.2) (.slice Ao61 t190.length co61)) (fun _ hk => hk.2) (.slice Ao58 t187.length co58)) (fun _ hk => hk.2) (.slice Ao61 t190.length co61)) (fun _ hk => ⟨⟨hk.1.1.1.1.1, ⟨hk.1.1.1.1.2.2, ⟨hk.1.1.1.2, hk.1.1.2⟩⟩⟩, hk.1.1.1.1.2.1⟩)) hg hat); have n4_ := Aside0.mk (blk_grown (g := gb180) (o := .cells #[.slice Ao58 t187.length co58, .slice Ao61 t190.length co61] 24 (0, 0)) (by (with_reducible repeat (first | refine blk_drewN ?_ _ | refine blk_drew ?_ | refine blk_alloc ?_ _)); refine blk_put (cs := #[.slice Ao58 t187.length co58, .slice Ao54 x181001_1.length co54]) ?_ 1 _ rfl; (with_reducible repeat (first | refine blk_drewN ?_ _ | refine blk_drew ?_ | refine blk_alloc ?_ _)); refine blk_put (cs := #[.slice Ao53 x181000_1.length co53, .slice Ao54 x181001_1.length co54]) ?_ 0 _ rfl; (with_reducible repeat (first | refine blk_drewN ?_ _ | refine blk_drew ?_ | refine blk_alloc ?_ _)); refine blk_far ?_ NB180_194.out _; (with_reducible repeat (first | refine blk_drewN ?_ _ | refine blk_drew ?_ | refine blk_alloc ?_ _)); refine blk_far ?_ NB180_194.out _; (with_reducible repeat (first | refine blk_drewN ?_ _ | refine blk_drew ?_ | refine blk_alloc ?_ _)); exact BK180.out) hg (Kd.R_ne HO_8.out BK180.out (by decide))); have n5_ := Aside0.mk (Kd.R_after (ok := (fun k_ => (w.heap.size ≤ k_) ∧ some k_ ≠ (.slice Ao53 x181000_1.length co53 : Value).ownBlock ∧ some k_ ≠ (.slice Ao54 x181001_1.length co54 : Value).ownBlock ∧ some k_ ≠ (.slice Ao61 t190.length co61 : Value).ownBlock)) (by (with_reducible repeat (first | apply Kd.R_alloc | apply Kd.R_drewN | apply Kd.R_drew)); exact Kd.R_mono (Kd.R_far (p := ⟨gb180, 1, none⟩) (Kd.R_far (p := ⟨gb180, 0, none⟩) (Kd.R_far (p := ⟨gb194, 1, none⟩) (Kd.R_far (p := ⟨gb194, 0, none⟩) (Kd.R_types (Kd.R_types HO189.out BK194.out (by decide)) BK180.out (by decide)) (fun _ hk => hk.1.2) (.slice Ao58 t187.length co58)) (fun _ hk => hk.1.2) (.slice Ao61 t190.length co61)) (fun _ hk => hk.2) (.slice Ao58 t187.length co58)) (fun _ hk => hk.2) (.slice Ao61 t190.length co61)) (fun _ hk => ⟨⟨hk.1.1.1.1.1.1, ⟨hk.1.1.1.2, ⟨hk.1.1.2, hk.1.1.1.1.1.2⟩⟩⟩, hk.1.1.1.1.2⟩)) hg hat); have n6_ := Aside0.mk (Kd.R_after (ok := (fun k_ => (w.heap.size ≤ k_) ∧ some k_ ≠ (.slice Ao53 x181000_1.length co53 : Value).ownBlock ∧ some k_ ≠ (.slice Ao54 x181001_1.length co54 : Value).ownBlock ∧ some k_ ≠ (.slice Ao58 t187.length co58 : Value).ownBlock)) (by (with_reducible repeat (first | apply Kd.R_alloc | apply Kd.R_drewN | apply Kd.R_drew)); exact Kd.R_mono (Kd.R_far (p := ⟨gb180, 1, none⟩) (Kd.R_far (p := ⟨gb180, 0, none⟩) (Kd.R_far (p := ⟨gb194, 1, none⟩) (Kd.R_far (p := ⟨gb194, 0, none⟩) (Kd.R_types (Kd.R_types HO192.out BK194.out (by decide)) BK180.out (by decide)) (fun _ hk => hk.1.2) (.slice Ao58 t187.length co58)) (fun _ hk => hk.1.2) (.slice Ao61 t190.length co61)) (fun _ hk => hk.2) (.slice Ao58 t187.length co58)) (fun _ hk => hk.2) (.slice Ao61 t190.length co61)) (fun _ hk => ⟨⟨hk.1.1.1.1.1.1, ⟨hk.1.1.1.2, ⟨hk.1.1.2, hk.1.1.1.1.1.2⟩⟩⟩, hk.1.1.1.1.2⟩)) hg hat); have n7_ := Aside0.mk (blk_grown (g := gb194) (o := .cells #[.slice Ao58 t187.length co58, .slice Ao61 t190.length co61] 24 (0, 0)) (by (with_reducible repeat (first | refine blk_drewN ?_ _ | refine blk_drew ?_ | refine blk_alloc ?_ _)); refine blk_far ?_ NB194_180.out _; (with_reducible repeat (first | refine blk_drewN ?_ _ | refine blk_drew ?_ | refine blk_alloc ?_ _)); refine blk_far ?_ NB194_180.out _; (with_reducible repeat (first | refine blk_drewN ?_ _ | refine blk_drew ?_ | refine blk_alloc ?_ _)); refine blk_put (cs := #[.slice Ao58 t187.length co58, .slice none 0 0]) ?_ 1 _ rfl; (with_reducible repeat (first | refine blk_drewN ?_ _ | refine blk_drew ?_ | refine blk_alloc ?_ _)); refine blk_put (cs := #[.slice none 0 0, .slice none 0 0]) ?_ 0 _ rfl; (with_reducible repeat (first | refine blk_drewN ?_ _ | refine blk_drew ?_ | refine blk_alloc ?_ _)); exact BK194.out) hg (Kd.R_ne HO_8.out BK194.out (by decide))); have n8_ := Aside0.mk (hb); have n9_ := Aside0.mk (ho); clear HO_0; clear HO_11; clear HO_181000; clear HO_181001; clear BK180; clear HO189; clear HO192; clear BK194; clear HB; clear HO_8; have HO_0 := n0_; have HO_11 := n1_; have HO_181000 := n2_; have HO_181001 := n3_; have BK180 := n4_; have HO189 := n5_; have HO192 := n6_; have BK194 := n7_; have HB := n8_; have HO197 := n9_; clear n0_ n1_ n2_ n3_ n4_ n5_ n6_ n7_ n8_ n9_; clear ho hb hg hat))
                  go_roundg kj9
                  case measure => have := HK1.out; have := HJ4.out; have := HJ9.out; omega
                  case rel => exact ⟨(y195), (x9_1), (wrap64 (x10_1 + 1)), (t187), (t190), (.slice Ao58 t187.length co58), (.slice Ao61 t190.length co61), (by first | rfl | (simp; done) | (simp [*]; done)), (by first | rfl | (simp; done) | (simp [*]; done)), H', ⟨by have := HK1.out; have := HJ4.out; have := HJ9.out; omega⟩, ⟨by exact pV (Kd.V_mono HO_0.out (fun _ hk => ⟨hk.1.1, ⟨hk.2, ⟨hk.1.2.2.2.1, ⟨hk.1.2.2.2.2.1, hk.1.2.2.2.2.2.1⟩⟩⟩⟩))⟩, ⟨by exact pR (Kd.R_mono HO197.out (fun _ hk => ⟨hk.1, ⟨hk.2.2.2.1, hk.2.2.2.2⟩⟩))⟩, ⟨by exact pR (Kd.R_mono HO189.out (fun _ hk => ⟨hk.1.1, ⟨hk.2, hk.1.2.2.2⟩⟩))⟩, ⟨by exact pR (Kd.R_mono HO192.out (fun _ hk => ⟨hk.1.1, ⟨hk.2, hk.1.2.2.2⟩⟩))⟩, ⟨by exact pK BK180.out⟩, ⟨by exact pB HB.out⟩⟩
          · replace c7 := Bool.eq_false_iff.mpr c7
            subst c7
            have H1 : ((disk_Crash.f x181000_1 x181001_1 a2).bind fun bt205 => ((disk_Read.f bt205.1 bt205.2).bind fun t211 => (if (t211.length : Int) ≥ x9_1 then (if (t211.length : Int) ≤ (x8_1.length : Int) then (if 0 ≤ (t211.length : Int) then (if (strOfNums t211).toList = (strOfNums (x8_1.take ((t211.length : Int) : Int).toNat)).toList then ((disk_Read.f x181000_1 x181001_1).bind fun t219 => (if (strOfNums t219).toList = (strOfNums x8_1).toList then ((customslaw33_awake.f).bind fun t222 => (some t222)) else (some false))) else (some false)) else (none)) else (some false)) else (some false)))) = some true := by rw [if_neg (show ¬ (false = true) by decide)] at H; exact H
            clear H
            have H := H1
            clear H1
            replace H := Option.bind_eq_some_iff.mp H
            obtain ⟨⟨t205, t208⟩, A640, H⟩ := H
            replace H : ((disk_Read.f t205 t208).bind fun t211 => (if (t211.length : Int) ≥ x9_1 then (if (t211.length : Int) ≤ (x8_1.length : Int) then (if 0 ≤ (t211.length : Int) then (if (strOfNums t211).toList = (strOfNums (x8_1.take ((t211.length : Int) : Int).toNat)).toList then ((disk_Read.f x181000_1 x181001_1).bind fun t219 => (if (strOfNums t219).toList = (strOfNums x8_1).toList then ((customslaw33_awake.f).bind fun t222 => (some t222)) else (some false))) else (some false)) else (none)) else (some false)) else (some false))) = some true := H
            have A64 := Aside0.mk A640
            clear A640
            replace H := Option.bind_eq_some_iff.mp H
            obtain ⟨t211, A650, H⟩ := H
            replace H : (if (t211.length : Int) ≥ x9_1 then (if (t211.length : Int) ≤ (x8_1.length : Int) then (if 0 ≤ (t211.length : Int) then (if (strOfNums t211).toList = (strOfNums (x8_1.take ((t211.length : Int) : Int).toNat)).toList then ((disk_Read.f x181000_1 x181001_1).bind fun t219 => (if (strOfNums t219).toList = (strOfNums x8_1).toList then ((customslaw33_awake.f).bind fun t222 => (some t222)) else (some false))) else (some false)) else (none)) else (some false)) else (some false)) = some true := H
            have A65 := Aside0.mk A650
            clear A650
            by_cases c66 : (t211.length : Int) ≥ x9_1
            · rw [if_pos c66] at H
              have c66b0 : decide (x9_1 ≤ (t211.length : Int)) = true := decide_eq_true c66
              clear c66
              by_cases c67 : (t211.length : Int) ≤ (x8_1.length : Int)
              · rw [if_pos c67] at H
                have c67b0 : decide ((t211.length : Int) ≤ (x8_1.length : Int)) = true := decide_eq_true c67
                have c67b1 : decide (t211.length ≤ x8_1.length) = true := decide_eq_true (Int.ofNat_le.mp c67)
                clear c67
                have c68 : 0 ≤ (t211.length : Int) := by
                  refine Classical.byContradiction fun c68 => ?_
                  rw [if_neg c68] at H
                  exact absurd H (by simp)
                rw [if_pos c68] at H
                have c68b0 := eq_true c68
                have c68b1 : decide (0 ≤ (t211.length : Int)) = true := decide_eq_true c68
                clear c68
                have c69b0 := eq_true (of_decide_eq_true (by first | (with_reducible assumption) | assumption) : (t211.length : Int) ≤ (x8_1.length : Int))
                obtain ⟨y214, hy214⟩ : ∃ y_ : List Int, y_ = (x8_1.take ((t211.length : Int) : Int).toNat) := ⟨_, rfl⟩
                replace H : (if (strOfNums t211).toList = (strOfNums y214).toList then ((disk_Read.f x181000_1 x181001_1).bind fun t219 => (if (strOfNums t219).toList = (strOfNums x8_1).toList then ((customslaw33_awake.f).bind fun t222 => (some t222)) else (some false))) else (some false)) = some true := by first | (rw [hy214]; with_reducible exact H) | (have H2_ := (Option.bind_some _ _).symm.trans H; rw [hy214]; with_reducible exact H2_) | (have H2_ := (Option.bind_some _ _).symm.trans H; with_reducible exact H2_) | with_reducible exact H | (rw [hy214]; exact H) | exact H
                have Ny214 := Aside0.mk hy214
                clear hy214
                by_cases c70 : (strOfNums t211).toList = (strOfNums y214).toList
                · rw [if_pos c70] at H
                  have c70b0 : ((strOfNums t211).toList == (strOfNums y214).toList) = true := beq_iff_eq.mpr c70
                  have c70b1 : ((strOfNums t211).toList != (strOfNums y214).toList) = false := bne_eq_false_iff_eq.mpr c70
                  clear c70
                  replace H := Option.bind_eq_some_iff.mp H
                  obtain ⟨t219, A710, H⟩ := H
                  replace H : (if (strOfNums t219).toList = (strOfNums x8_1).toList then ((customslaw33_awake.f).bind fun t222 => (some t222)) else (some false)) = some true := H
                  have A71 := Aside0.mk A710
                  clear A710
                  by_cases c72 : (strOfNums t219).toList = (strOfNums x8_1).toList
                  · rw [if_pos c72] at H
                    have c72b0 : ((strOfNums t219).toList == (strOfNums x8_1).toList) = true := beq_iff_eq.mpr c72
                    have c72b1 : ((strOfNums t219).toList != (strOfNums x8_1).toList) = false := bne_eq_false_iff_eq.mpr c72
                    clear c72
                    replace H := Option.bind_eq_some_iff.mp H
                    obtain ⟨t222, A730, H⟩ := H
                    replace H : (some t222) = some true := H
                    have A73 := Aside0.mk A730
                    clear A730
                    have HTR := Aside0.mk (Option.some.inj H)
                    clear H
                    have hcz74_0 : wc.cell? ⟨gb180, 0, none⟩ = some (u181000) := (blk_cell BK180.out 0).trans rfl
                    have hcz74_1 : wc.cell? ⟨gb180, 1, none⟩ = some (u181001) := (blk_cell BK180.out 1).trans rfl
                    have hfz74_0 := blk_frozen BK180.out 0
                    have hfz74_1 := blk_frozen BK180.out 1
                    obtain ⟨Ao75, co75, eo75⟩ := Kd.R_slice HO_181000.out
                    subst eo75
                    obtain ⟨Ao76, co76, eo76⟩ := Kd.R_slice HO_181001.out
                    subst eo76
                    try go_wp2_with (first | ((with_reducible refine gate_callee (f := 21) rfl ?_); refine goesL_ (some 62) rfl rfl Try.func21 (by kernel_rfl) rfl #[.agg #[.slice Ao75 x181000_1.length co75, .slice Ao76 x181001_1.length co76], .int .i64 a2] rfl (by (try simp only [List.map_toArray, List.map_cons, List.map_nil]); first | done | rfl | (simp only [List.length_drop, List.length_take]; rfl)) ?_; (with_reducible refine (disk_Crash.calls _ _ x181000_1 _ _ x181001_1 a2 t205 t208 _ ?side1 ?side2 ?side3 ?side4 A64.out).mono ?_); (case side1 => exact pC (Kd.R_reads' HO_181000.out).2.2); (case side2 => exact (Kd.R_reads' HO_181000.out).2.1); (case side3 => exact pC (Kd.R_reads' HO_181001.out).2.2); (case side4 => exact (Kd.R_reads' HO_181001.out).2.1); rintro e w77 ⟨v206, v209, rfl, ho0, ho1, hb⟩; refine ⟨_, rfl, ?_⟩; have n0_ := Aside0.mk (Kd.V_mono (Kd.V_told (Kd.V_told (Kd.V_old (by exact pV HO_0.out) hb) (Kd.R_base ho0)) (Kd.R_base ho1)) (fun _ h_ => h_.1)); have n1_ := Aside0.mk (Kd.R_mono (Kd.R_told (Kd.R_told (Kd.R_old (by exact pR HO_8.out) hb) (Kd.R_base ho0)) (Kd.R_base ho1)) (fun _ h_ => h_.1)); have n2_ := Aside0.mk (Kd.R_mono (Kd.R_told (Kd.R_told (Kd.R_old (by exact pR HO_181000.out) hb) (Kd.R_base ho0)) (Kd.R_base ho1)) (fun _ h_ => h_.1)); have n3_ := Aside0.mk (Kd.R_mono (Kd.R_told (Kd.R_told (Kd.R_old (by exact pR HO_181001.out) hb) (Kd.R_base ho0)) (Kd.R_base ho1)) (fun _ h_ => h_.1)); have n4_ := Aside0.mk (Kd.R_lower (Kd.R_new' (Kd.R_new' (Kd.R_new' (Kd.R_newM (M := fun k_ => (w.heap.size ≤ k_)) ho0 (below_size (by exact pB HB.out)) (fun k_ h_ => h_)) (Kd.R_lt (by exact pR HO_8.out))) (Kd.R_lt (by exact pR HO_181000.out))) (Kd.R_lt (by exact pR HO_181001.out))) (below_size (by exact pB HB.out))); have n5_ := Aside0.mk (Kd.R_lower (Kd.R_new' (Kd.R_new' (Kd.R_new' (Kd.R_newM (M := fun k_ => (w.heap.size ≤ k_)) ho1 (below_size (by exact pB HB.out)) (fun k_ h_ => h_)) (Kd.R_lt (by exact pR HO_8.out))) (Kd.R_lt (by exact pR HO_181000.out))) (Kd.R_lt (by exact pR HO_181001.out))) (below_size (by exact pB HB.out))); have n6_ := Aside0.mk (blk_below (g := gb180) (o := .cells #[.slice Ao75 x181000_1.length co75, .slice Ao76 x181001_1.length co76] 24 (0, 0)) (by exact pK BK180.out) hb); have n7_ := Aside0.mk (below_step (by exact pB HB.out) hb); clear HO_0; clear HO_8; clear HO_181000; clear HO_181001; clear BK180; clear HB; have HO_0 := n0_; have HO_8 := n1_; have HO_181000 := n2_; have HO_181001 := n3_; have HO207 := n4_; have HO210 := n5_; have BK180 := n6_; have HB := n7_; clear n0_ n1_ n2_ n3_ n4_ n5_ n6_ n7_; (try clear hb); (try clear hb2); (try clear hk); (try clear hi); (try clear ho0); (try clear ho1); obtain ⟨Ao78, co78, eo78⟩ := Kd.R_slice HO207.out; subst eo78; obtain ⟨Ao79, co79, eo79⟩ := Kd.R_slice HO210.out; subst eo79) | ((with_reducible refine gate_callee (f := 18) rfl ?_); refine goesL_ (some 63) rfl rfl Try.func18 (by kernel_rfl) rfl #[.agg #[.slice Ao78 t205.length co78, .slice Ao79 t208.length co79]] rfl (by (try simp only [List.map_toArray, List.map_cons, List.map_nil]); first | done | rfl | (simp only [List.length_drop, List.length_take]; rfl)) ?_; (with_reducible refine (disk_Read.calls _ _ t205 _ _ t208 t211 _ ?side1 ?side2 ?side3 ?side4 A65.out).mono ?_); (case side1 => exact pC (Kd.R_reads' HO207.out).2.2); (case side2 => exact (Kd.R_reads' HO207.out).2.1); (case side3 => exact pC (Kd.R_reads' HO210.out).2.2); (case side4 => exact (Kd.R_reads' HO210.out).2.1); rintro e w80 ⟨v212, rfl, ho0, hb⟩; refine ⟨_, rfl, ?_⟩; have n0_ := Aside0.mk (Kd.V_elder' (by exact pV HO_0.out) (Kd.R_base ho0) hb); have n1_ := Aside0.mk (Kd.R_elder' (by exact pR HO_8.out) (Kd.R_base ho0) hb); have n2_ := Aside0.mk (Kd.R_elder' (by exact pR HO_181000.out) (Kd.R_base ho0) hb); have n3_ := Aside0.mk (Kd.R_elder' (by exact pR HO_181001.out) (Kd.R_base ho0) hb); have n4_ := Aside0.mk (Kd.R_elder' (by exact pR HO207.out) (Kd.R_base ho0) hb); have n5_ := Aside0.mk (Kd.R_elder' (by exact pR HO210.out) (Kd.R_base ho0) hb); have n6_ := Aside0.mk (Kd.R_lower (Kd.R_new' (Kd.R_new' (Kd.R_new' (Kd.R_new' (Kd.R_new' (Kd.R_newM (M := fun k_ => (w.heap.size ≤ k_)) ho0 (below_size (by exact pB HB.out)) (fun k_ h_ => h_)) (Kd.R_lt (by exact pR HO_8.out))) (Kd.R_lt (by exact pR HO_181000.out))) (Kd.R_lt (by exact pR HO_181001.out))) (Kd.R_lt (by exact pR HO207.out))) (Kd.R_lt (by exact pR HO210.out))) (below_size (by exact pB HB.out))); have n7_ := Aside0.mk (blk_below (g := gb180) (o := .cells #[.slice Ao75 x181000_1.length co75, .slice Ao76 x181001_1.length co76] 24 (0, 0)) (by exact pK BK180.out) hb); have n8_ := Aside0.mk (below_step (by exact pB HB.out) hb); clear HO_0; clear HO_8; clear HO_181000; clear HO_181001; clear HO207; clear HO210; clear BK180; clear HB; have HO_0 := n0_; have HO_8 := n1_; have HO_181000 := n2_; have HO_181001 := n3_; have HO207 := n4_; have HO210 := n5_; have HO213 := n6_; have BK180 := n7_; have HB := n8_; clear n0_ n1_ n2_ n3_ n4_ n5_ n6_ n7_ n8_; (try clear hb); (try clear hb2); (try clear hk); (try clear hi); (try clear ho0)))
                    have n0_ := Aside0.mk (Kd.V_drew HO_0.out)
                    have n1_ := Aside0.mk (Kd.R_drew HO_8.out)
                    have n2_ := Aside0.mk (Kd.R_drew HO_181000.out)
                    have n3_ := Aside0.mk (Kd.R_drew HO_181001.out)
                    have n4_ := Aside0.mk (Kd.R_drew HO207.out)
                    have n5_ := Aside0.mk (Kd.R_drew HO210.out)
                    have n6_ := Aside0.mk (Kd.R_drew HO213.out)
                    have n7_ := Aside0.mk (blk_drew BK180.out)
                    have n8_ := Aside0.mk (below_drew1 HB.out)
                    clear HO_0
                    clear HO_8
                    clear HO_181000
                    clear HO_181001
                    clear HO207
                    clear HO210
                    clear HO213
                    clear BK180
                    clear HB
                    have HO_0 := n0_
                    have HO_8 := n1_
                    have HO_181000 := n2_
                    have HO_181001 := n3_
                    have HO207 := n4_
                    have HO210 := n5_
                    have HO213 := n6_
                    have BK180 := n7_
                    have HB := n8_
                    clear n0_ n1_ n2_ n3_ n4_ n5_ n6_ n7_ n8_
                    obtain ⟨Ao82, co82, eo82⟩ := Kd.R_slice HO213.out
                    (first | subst eo82 | (injection eo82 with f1_ f2_ f3_; have f4_ := f1_.symm; have f5_ := f3_.symm; clear f1_ f2_ f3_; subst f4_; subst f5_))
                    obtain ⟨Ao83, co83, eo83⟩ := Kd.R_slice HO_8.out
                    (first | subst eo83 | (injection eo83 with f1_ f2_ f3_; have f4_ := f1_.symm; have f5_ := f3_.symm; clear f1_ f2_ f3_; subst f4_; subst f5_))
                    have q84 : ((t211.length : Int) : Int) ≤ ((x8_1.length : Int) : Int) := of_decide_eq_true (by first | (with_reducible assumption) | assumption)
                    obtain ⟨i084, hi084, _, hsz84, _⟩ := info_parts info5
                    have hroom84 : x8_1.length ≤ co83 := (Kd.R_reads' HO_8.out).2.1
                    have hC84 : Kd.F (Kd.int .u8) _ _ Ao83 x8_1.length x8_1 := (Kd.V_at (base := w.heap.size) (Kd.V_mono (ok' := (fun k_ => ((((((P0_ k_ ∨ w.heap.size ≤ k_) ∧ (some k_ ≠ (.slice Ao75 x181000_1.length co75 : Value).ownBlock ∧ some k_ ≠ (.slice Ao76 x181001_1.length co76 : Value).ownBlock)) ∧ some k_ ≠ (.slice Ao78 t205.length co78 : Value).ownBlock) ∧ some k_ ≠ (.slice Ao79 t208.length co79 : Value).ownBlock) ∧ some k_ ≠ (.slice Ao82 t211.length co82 : Value).ownBlock) ∧ k_ ≠ gb180))) (Kd.R_V (Kd.R_types (HO_8.out) BK180.out (by decide))) (fun k_ hk => ⟨⟨⟨⟨⟨(.inr (hk.1.1.1.1.1)), ⟨hk.1.1.1.1.2.1, hk.1.1.1.1.2.2⟩⟩, hk.1.1.1.2⟩, hk.1.1.2⟩, hk.1.2⟩, hk.2⟩))).2.2
                    have hcut84 := cut_to (P := Try.prog) 22 5 .i64 Try.underlying22 hi084 Ao83 x8_1.length co83 (t211.length : Int) (of_decide_eq_true (by first | (with_reducible assumption) | assumption)) q84 hroom84
                    have hr84 := Kd.F_take (m := ((t211.length : Int) : Int).toNat) hC84 (by omega)
                    have hy84 : y214.length = ((t211.length : Int) : Int).toNat := (by rw [Ny214.out, List.length_take]; omega)
                    rw [← Ny214.out] at hr84
                    rw [← hy84] at hcut84
                    have HO218 := Aside0.mk (show Kd.V (Kd.int .u8) 5 _ w.heap.size _ (.slice Ao83 y214.length co83) y214 from Kd.V_mk (by omega) hr84)
                    have HC218 := Aside0.mk (show y214.length ≤ co83 from by omega)
                    clear hr84 hC84 hroom84 hi084 hsz84
                    have KY84 := Aside0.mk hy84
                    clear hy84
                    replace q84 := eq_true q84
                    have hcv85 := own_string (P := Try.prog) Try.underlying22 Try.underlying5 Try.underlying9 (Kd.own_of_R HO213.out)
                    refine start_ (n := 33) (S := fun w' => w'.cell? ⟨gb180, 0, none⟩ = some (.slice Ao75 x181000_1.length co75) ∧ w'.cell? ⟨gb180, 1, none⟩ = some (.slice Ao76 x181001_1.length co76) ∧ (convert 22 9 (.slice Ao82 t211.length co82)).run Try.prog w' = .ok (.string (strOfNums t211)) w' ∧ (convert 22 9 (.slice Ao83 x8_1.length co83)).run Try.prog w' = .ok (.string (strOfNums x8_1)) w') (ds := []) #[false, false, false, false, false, false, false, false, false, false, false, false, false, false, false, false, false, false, false, false, false, false, false, false, false, false, false, false, false, false, false, false, false] (by kernel_rfl) rfl rfl ⟨(blk_cell BK180.out 0).trans rfl, (blk_cell BK180.out 1).trans rfl, own_string (P := Try.prog) Try.underlying22 Try.underlying5 Try.underlying9 (Kd.own_of_R HO213.out), own_string (P := Try.prog) Try.underlying22 Try.underlying5 Try.underlying9 (Kd.own_of_R HO_8.out)⟩ (fun hHeld => ?_); refine with_tabW customslaw33_DiskPrefix.tab19 customslaw33_DiskPrefix.bits19 (fun HT_ HW_ => ?_)
                    generalize w80.drew = w81 at HO_0 HO_8 HO_181000 HO_181001 HO207 HO210 HO213 BK180 HB HO218 hHeld ⊢
                    refine pure_ (i := 0) (N := some 64) (v := ?_) (a' := ?_) #[true, false, false, false, false, false, false, false, false, false, false, false, false, false, false, false, false, false, false, false, false, false, false, false, false, false, false, false, false, false, false, false, false] rfl rfl (any_of HT_.out (by kernel_rfl)) (fun _ _ _ h => h) (Or.inl ⟨by rfl, ?_⟩) ?_ ?_
                    rotate_left
                    · intro w'
                      go_simp
                      with_reducible rfl
                    rotate_left
                    · simp only [Act.put, List.setIfInBounds_toArray, List.set_cons_zero, List.set_cons_succ, i64_w, i32_w]
                      rfl
                    refine pure_ (i := 1) (N := some 65) (v := ?_) (a' := ?_) #[true, true, false, false, false, false, false, false, false, false, false, false, false, false, false, false, false, false, false, false, false, false, false, false, false, false, false, false, false, false, false, false, false] rfl rfl (any_of HT_.out (by kernel_rfl)) (fun _ _ _ h => h) (Or.inl ⟨by rfl, ?_⟩) ?_ ?_
                    rotate_left
                    · intro w'
                      go_simp
                      with_reducible rfl
                    rotate_left
                    · simp only [Act.put, List.setIfInBounds_toArray, List.set_cons_zero, List.set_cons_succ, i64_w, i32_w]
                      rfl
                    refine pure_ (i := 2) (N := some 66) (v := ?_) (a' := ?_) #[true, true, true, false, false, false, false, false, false, false, false, false, false, false, false, false, false, false, false, false, false, false, false, false, false, false, false, false, false, false, false, false, false] rfl rfl (any_of HT_.out (by kernel_rfl)) (fun _ _ _ h => h) (Or.inl ⟨by rfl, ?_⟩) ?_ ?_
                    rotate_left
                    · intro w'
                      go_simp
                      with_reducible rfl
                    rotate_left
                    · simp only [Act.put, List.setIfInBounds_toArray, List.set_cons_zero, List.set_cons_succ, i64_w, i32_w]
                      rfl
                    refine pure_ (i := 3) (N := some 67) (v := ?_) (a' := ?_) #[true, true, true, true, false, false, false, false, false, false, false, false, false, false, false, false, false, false, false, false, false, false, false, false, false, false, false, false, false, false, false, false, false] rfl rfl (any_of HT_.out (by kernel_rfl)) (fun _ _ _ h => h) (Or.inl ⟨by rfl, ?_⟩) ?_ ?_
                    rotate_left
                    · intro w'
                      go_simp
                      with_reducible rfl
                    rotate_left
                    · simp only [Act.put, List.setIfInBounds_toArray, List.set_cons_zero, List.set_cons_succ, i64_w, i32_w]
                      rfl
                    refine pure_ (i := 4) (N := some 68) (v := ?_) (a' := ?_) #[true, true, true, true, true, false, false, false, false, false, false, false, false, false, false, false, false, false, false, false, false, false, false, false, false, false, false, false, false, false, false, false, false] rfl rfl (any_of HT_.out (by kernel_rfl)) (fun _ _ _ h => h) (Or.inl ⟨by rfl, ?_⟩) ?_ ?_
                    rotate_left
                    · intro w'
                      go_simp
                      with_reducible rfl
                    rotate_left
                    · simp only [Act.put, List.setIfInBounds_toArray, List.set_cons_zero, List.set_cons_succ, i64_w, i32_w]
                      rfl
                    refine pure_ (i := 5) (N := some 69) (v := ?_) (a' := ?_) #[true, true, true, true, true, true, false, false, false, false, false, false, false, false, false, false, false, false, false, false, false, false, false, false, false, false, false, false, false, false, false, false, false] rfl rfl (any_of HT_.out (by kernel_rfl)) (fun _ _ _ h => h) (Or.inl ⟨by rfl, ?_⟩) ?_ ?_
                    rotate_left
                    · intro w'
                      go_simp
                      with_reducible rfl
                    rotate_left
                    · simp only [Act.put, List.setIfInBounds_toArray, List.set_cons_zero, List.set_cons_succ, i64_w, i32_w]
                      rfl
                    refine pure_ (i := 6) (N := some 70) (v := ?_) (a' := ?_) #[true, true, true, true, true, true, true, false, false, false, false, false, false, false, false, false, false, false, false, false, false, false, false, false, false, false, false, false, false, false, false, false, false] rfl rfl (any_of HT_.out (by kernel_rfl)) (fun _ _ _ h => h) (Or.inl ⟨by rfl, ?_⟩) ?_ ?_
                    rotate_left
                    · intro w'
                      go_simp
                      with_reducible rfl
                    rotate_left
                    · simp only [Act.put, List.setIfInBounds_toArray, List.set_cons_zero, List.set_cons_succ, i64_w, i32_w]
                      rfl
                    refine pure_ (i := 7) (N := some 71) (v := ?_) (a' := ?_) #[true, true, true, true, true, true, true, true, false, false, false, false, false, false, false, false, false, false, false, false, false, false, false, false, false, false, false, false, false, false, false, false, false] rfl rfl (any_of HT_.out (by kernel_rfl)) (fun _ _ _ h => h) (Or.inl ⟨by rfl, ?_⟩) ?_ ?_
                    rotate_left
                    · intro w'
                      go_simp
                      with_reducible rfl
                    rotate_left
                    · simp only [Act.put, List.setIfInBounds_toArray, List.set_cons_zero, List.set_cons_succ, i64_w, i32_w]
                      rfl
                    refine pure_ (i := 8) (N := some 72) (v := ?_) (a' := ?_) #[true, true, true, true, true, true, true, true, true, false, false, false, false, false, false, false, false, false, false, false, false, false, false, false, false, false, false, false, false, false, false, false, false] rfl rfl (any_of HT_.out (by kernel_rfl)) (fun _ _ _ h => h) (Or.inl ⟨by rfl, ?_⟩) ?_ ?_
                    rotate_left
                    · intro w'
                      go_simp
                      with_reducible rfl
                    rotate_left
                    · simp only [Act.put, List.setIfInBounds_toArray, List.set_cons_zero, List.set_cons_succ, i64_w, i32_w]
                      rfl
                    refine pure_ (i := 9) (N := some 73) (v := ?_) (a' := ?_) #[true, true, true, true, true, true, true, true, true, true, false, false, false, false, false, false, false, false, false, false, false, false, false, false, false, false, false, false, false, false, false, false, false] rfl rfl (any_of HT_.out (by kernel_rfl)) (fun _ _ _ h => h) (Or.inl ⟨by rfl, ?_⟩) ?_ ?_
                    rotate_left
                    · intro w'
                      go_simp
                      with_reducible rfl
                    rotate_left
                    · simp only [Act.put, List.setIfInBounds_toArray, List.set_cons_zero, List.set_cons_succ, i64_w, i32_w]
                      rfl
                    refine pure_ (i := 10) (N := some 74) (v := ?_) (a' := ?_) #[true, true, true, true, true, true, true, true, true, true, true, false, false, false, false, false, false, false, false, false, false, false, false, false, false, false, false, false, false, false, false, false, false] rfl rfl (any_of HT_.out (by kernel_rfl)) (fun _ _ _ h => h) (Or.inl ⟨by rfl, ?_⟩) ?_ ?_
                    rotate_left
                    · intro w'
                      go_simp
                      with_reducible rfl
                    rotate_left
                    · simp only [Act.put, List.setIfInBounds_toArray, List.set_cons_zero, List.set_cons_succ, i64_w, i32_w]
                      rfl
                    refine pure_ (i := 11) (N := some 75) (v := ?_) (a' := ?_) #[true, true, true, true, true, true, true, true, true, true, true, true, false, false, false, false, false, false, false, false, false, false, false, false, false, false, false, false, false, false, false, false, false] rfl rfl (any_of HT_.out (by kernel_rfl)) (fun _ _ _ h => h) (Or.inl ⟨by rfl, ?_⟩) ?_ ?_
                    rotate_left
                    · intro w'
                      go_simp
                      with_reducible rfl
                    rotate_left
                    · simp only [Act.put, List.setIfInBounds_toArray, List.set_cons_zero, List.set_cons_succ, i64_w, i32_w]
                      rfl
                    refine pure_ (i := 12) (N := some 76) (v := ?_) (a' := ?_) #[true, true, true, true, true, true, true, true, true, true, true, true, true, false, false, false, false, false, false, false, false, false, false, false, false, false, false, false, false, false, false, false, false] rfl rfl (any_of HT_.out (by kernel_rfl)) (fun _ _ _ h => h) (Or.inl ⟨by rfl, ?_⟩) ?_ ?_
                    rotate_left
                    · intro w'
                      go_simp
                      with_reducible rfl
                    rotate_left
                    · simp only [Act.put, List.setIfInBounds_toArray, List.set_cons_zero, List.set_cons_succ, i64_w, i32_w]
                      rfl
                    refine take_ (i := 13) (N := some 77) (v := ?_) (a' := ?_) #[true, true, true, true, true, true, true, true, true, true, true, true, true, true, false, false, false, false, false, false, false, false, false, false, false, false, false, false, false, false, false, false, false] rfl rfl (take_ofW HT_.out HW_.out (by kernel_rfl)) (fun _ _ _ h => h) (Or.inl ⟨by rfl, ?_⟩) hHeld ?_ ?_
                    rotate_left
                    · rintro w' ⟨s0, s1, s2, s3⟩
                      go_simp
                      with_reducible rfl
                    rotate_left
                    · simp only [Act.put, List.setIfInBounds_toArray, List.set_cons_zero, List.set_cons_succ, i64_w, i32_w]
                      rfl
                    refine pure_ (i := 14) (N := some 78) (v := ?_) (a' := ?_) #[true, true, true, true, true, true, true, true, true, true, true, true, true, true, true, false, false, false, false, false, false, false, false, false, false, false, false, false, false, false, false, false, false] rfl rfl (any_of HT_.out (by kernel_rfl)) (fun _ _ _ h => h) (Or.inl ⟨by rfl, ?_⟩) ?_ ?_
                    rotate_left
                    · intro w'
                      go_simp
                      with_reducible rfl
                    rotate_left
                    · simp only [Act.put, List.setIfInBounds_toArray, List.set_cons_zero, List.set_cons_succ, i64_w, i32_w]
                      rfl
                    refine pure_ (i := 15) (N := some 79) (v := ?_) (a' := ?_) #[true, true, true, true, true, true, true, true, true, true, true, true, true, true, true, true, false, false, false, false, false, false, false, false, false, false, false, false, false, false, false, false, false] rfl rfl (any_of HT_.out (by kernel_rfl)) (fun _ _ _ h => h) (Or.inl ⟨by rfl, ?_⟩) ?_ ?_
                    rotate_left
                    · intro w'
                      go_simp
                      with_reducible rfl
                    rotate_left
                    · simp only [Act.put, List.setIfInBounds_toArray, List.set_cons_zero, List.set_cons_succ, i64_w, i32_w]
                      rfl
                    refine pure_ (i := 16) (N := some 80) (v := ?_) (a' := ?_) #[true, true, true, true, true, true, true, true, true, true, true, true, true, true, true, true, true, false, false, false, false, false, false, false, false, false, false, false, false, false, false, false, false] rfl rfl (any_of HT_.out (by kernel_rfl)) (fun _ _ _ h => h) (Or.inl ⟨by rfl, ?_⟩) ?_ ?_
                    rotate_left
                    · intro w'
                      go_simp
                      with_reducible rfl
                    rotate_left
                    · simp only [Act.put, List.setIfInBounds_toArray, List.set_cons_zero, List.set_cons_succ, i64_w, i32_w]
                      rfl
                    refine pure_ (i := 17) (N := some 81) (v := ?_) (a' := ?_) #[true, true, true, true, true, true, true, true, true, true, true, true, true, true, true, true, true, true, false, false, false, false, false, false, false, false, false, false, false, false, false, false, false] rfl rfl (any_of HT_.out (by kernel_rfl)) (fun _ _ _ h => h) (Or.inl ⟨by rfl, ?_⟩) ?_ ?_
                    rotate_left
                    · intro w'
                      go_simp
                      with_reducible rfl
                    rotate_left
                    · simp only [Act.put, List.setIfInBounds_toArray, List.set_cons_zero, List.set_cons_succ, i64_w, i32_w]
                      rfl
                    refine one_ (i := 18) (N := some 82) #[true, true, true, true, true, true, true, true, true, true, true, true, true, true, true, true, true, true, true, false, false, false, false, false, false, false, false, false, false, false, false, false, false] rfl rfl (one_of HT_.out (by kernel_rfl)) (by decide) (fun K hK => ?_)
                    have hcv86 := Kd.C_string (P := Try.prog) (A := Ao83) (c := co83) Try.underlying22 Try.underlying5 Try.underlying9 (Kd.V_reads' HO218.out).2.2
                    refine value_ (w1 := ?_) (v := ?_) (by rfl) rfl ?_ ?_
                    rotate_left 2
                    · go_simp
                      constructor
                      · rfl
                      · rfl
                    clear hcv86
                    refine hK.out _ _ ⟨(blk_cell BK180.out 0).trans rfl, (blk_cell BK180.out 1).trans rfl, own_string (P := Try.prog) Try.underlying22 Try.underlying5 Try.underlying9 (Kd.own_of_R HO213.out), own_string (P := Try.prog) Try.underlying22 Try.underlying5 Try.underlying9 (Kd.own_of_R HO_8.out)⟩ (fun hHeld => ?_)
                    clear hK K
                    refine norm_ (a' := ?_) ?_ ?_
                    rotate_left
                    · show Act.put _ (some 82) _ = _
                      simp only [Act.put, List.setIfInBounds_toArray, List.set_cons_zero, List.set_cons_succ, i64_w, i32_w]
                      rfl
                    refine pure_ (i := 19) (N := some 83) (v := ?_) (a' := ?_) #[true, true, true, true, true, true, true, true, true, true, true, true, true, true, true, true, true, true, true, true, false, false, false, false, false, false, false, false, false, false, false, false, false] rfl rfl (any_of HT_.out (by kernel_rfl)) (fun _ _ _ h => h) (Or.inl ⟨by rfl, ?_⟩) ?_ ?_
                    rotate_left
                    · intro w'
                      go_simp
                      with_reducible rfl
                    rotate_left
                    · simp only [Act.put, List.setIfInBounds_toArray, List.set_cons_zero, List.set_cons_succ, i64_w, i32_w]
                      rfl
                    refine pure_ (i := 20) (N := some 84) (v := ?_) (a' := ?_) #[true, true, true, true, true, true, true, true, true, true, true, true, true, true, true, true, true, true, true, true, true, false, false, false, false, false, false, false, false, false, false, false, false] rfl rfl (any_of HT_.out (by kernel_rfl)) (fun _ _ _ h => h) (Or.inl ⟨by rfl, ?_⟩) ?_ ?_
                    rotate_left
                    · intro w'
                      go_simp
                      with_reducible rfl
                    rotate_left
                    · simp only [Act.put, List.setIfInBounds_toArray, List.set_cons_zero, List.set_cons_succ, i64_w, i32_w]
                      rfl
                    refine pure_ (i := 21) (N := some 85) (v := ?_) (a' := ?_) #[true, true, true, true, true, true, true, true, true, true, true, true, true, true, true, true, true, true, true, true, true, true, false, false, false, false, false, false, false, false, false, false, false] rfl rfl (any_of HT_.out (by kernel_rfl)) (fun _ _ _ h => h) (Or.inl ⟨by rfl, ?_⟩) ?_ ?_
                    rotate_left
                    · intro w'
                      go_simp
                      with_reducible rfl
                    rotate_left
                    · simp only [Act.put, List.setIfInBounds_toArray, List.set_cons_zero, List.set_cons_succ, i64_w, i32_w]
                      rfl
                    refine pure_ (i := 25) (N := some 89) (v := ?_) (a' := ?_) #[true, true, true, true, true, true, true, true, true, true, true, true, true, true, true, true, true, true, true, true, true, true, false, false, false, true, false, false, false, false, false, false, false] rfl rfl (any_of HT_.out (by kernel_rfl)) (fun _ _ _ h => h) (Or.inl ⟨by rfl, ?_⟩) ?_ ?_
                    rotate_left
                    · intro w'
                      go_simp
                      with_reducible rfl
                    rotate_left
                    · simp only [Act.put, List.setIfInBounds_toArray, List.set_cons_zero, List.set_cons_succ, i64_w, i32_w]
                      rfl
                    refine take_ (i := 26) (N := some 90) (v := ?_) (a' := ?_) #[true, true, true, true, true, true, true, true, true, true, true, true, true, true, true, true, true, true, true, true, true, true, false, false, false, true, true, false, false, false, false, false, false] rfl rfl (take_ofW HT_.out HW_.out (by kernel_rfl)) (fun _ _ _ h => h) (Or.inl ⟨by rfl, ?_⟩) hHeld ?_ ?_
                    rotate_left
                    · rintro w' ⟨s0, s1, s2, s3⟩
                      go_simp
                      with_reducible rfl
                    rotate_left
                    · simp only [Act.put, List.setIfInBounds_toArray, List.set_cons_zero, List.set_cons_succ, i64_w, i32_w]
                      rfl
                    refine take_ (i := 22) (N := some 86) (v := ?_) (a' := ?_) #[true, true, true, true, true, true, true, true, true, true, true, true, true, true, true, true, true, true, true, true, true, true, true, false, false, true, true, false, false, false, false, false, false] rfl rfl (take_ofW HT_.out HW_.out (by kernel_rfl)) (fun _ _ _ h => h) (Or.inl ⟨by rfl, ?_⟩) hHeld ?_ ?_
                    rotate_left
                    · rintro w' ⟨s0, s1, s2, s3⟩
                      go_simp
                      with_reducible rfl
                    rotate_left
                    · simp only [Act.put, List.setIfInBounds_toArray, List.set_cons_zero, List.set_cons_succ, i64_w, i32_w]
                      rfl
                    refine one_ (i := 23) (N := some 87) #[true, true, true, true, true, true, true, true, true, true, true, true, true, true, true, true, true, true, true, true, true, true, true, true, false, true, true, false, false, false, false, false, false] rfl rfl (one_of HT_.out (by kernel_rfl)) (by decide) (fun K hK => ?_)
                    refine goes_ Try.func18 (by kernel_rfl) rfl #[.agg #[.slice Ao75 x181000_1.length co75, .slice Ao76 x181001_1.length co76]] (by rfl) rfl rfl (by (try simp only [List.map_toArray, List.map_cons, List.map_nil]); first | done | rfl | (simp only [List.length_drop, List.length_take]; rfl)) ?_
                    with_reducible refine (disk_Read.calls _ _ x181000_1 _ _ x181001_1 t219 _ ?side1 ?side2 ?side3 ?side4 A71.out).mono ?_
                    (case side1 => exact pC (Kd.R_reads' HO_181000.out).2.2)
                    (case side2 => exact (Kd.R_reads' HO_181000.out).2.1)
                    (case side3 => exact pC (Kd.R_reads' HO_181001.out).2.2)
                    (case side4 => exact (Kd.R_reads' HO_181001.out).2.1)
                    rintro e w87 ⟨v220, rfl, ho0, hb⟩
                    refine ⟨_, rfl, ?_⟩
                    have n0_ := Aside0.mk (Kd.V_elder' (by exact pV HO_0.out) (Kd.R_base ho0) hb)
                    have n1_ := Aside0.mk (Kd.R_elder' (by exact pR HO_8.out) (Kd.R_base ho0) hb)
                    have n2_ := Aside0.mk (Kd.R_elder' (by exact pR HO_181000.out) (Kd.R_base ho0) hb)
                    have n3_ := Aside0.mk (Kd.R_elder' (by exact pR HO_181001.out) (Kd.R_base ho0) hb)
                    have n4_ := Aside0.mk (Kd.R_elder' (by exact pR HO207.out) (Kd.R_base ho0) hb)
                    have n5_ := Aside0.mk (Kd.R_elder' (by exact pR HO210.out) (Kd.R_base ho0) hb)
                    have n6_ := Aside0.mk (Kd.R_elder' (by exact pR HO213.out) (Kd.R_base ho0) hb)
                    have n7_ := Aside0.mk (Kd.V_elder' (by exact pV HO218.out) (Kd.R_base ho0) hb)
                    have n8_ := Aside0.mk (Kd.R_lower (Kd.R_new' (Kd.R_new' (Kd.R_new' (Kd.R_new' (Kd.R_new' (Kd.R_new' (Kd.R_newM (M := fun k_ => (w.heap.size ≤ k_)) ho0 (below_size (by exact pB HB.out)) (fun k_ h_ => h_)) (Kd.R_lt (by exact pR HO_8.out))) (Kd.R_lt (by exact pR HO_181000.out))) (Kd.R_lt (by exact pR HO_181001.out))) (Kd.R_lt (by exact pR HO207.out))) (Kd.R_lt (by exact pR HO210.out))) (Kd.R_lt (by exact pR HO213.out))) (below_size (by exact pB HB.out)))
                    have n9_ := Aside0.mk (blk_below (g := gb180) (o := .cells #[.slice Ao75 x181000_1.length co75, .slice Ao76 x181001_1.length co76] 24 (0, 0)) (by exact pK BK180.out) hb)
                    have n10_ := Aside0.mk (below_step (by exact pB HB.out) hb)
                    clear HO_0
                    clear HO_8
                    clear HO_181000
                    clear HO_181001
                    clear HO207
                    clear HO210
                    clear HO213
                    clear HO218
                    clear BK180
                    clear HB
                    have HO_0 := n0_
                    have HO_8 := n1_
                    have HO_181000 := n2_
                    have HO_181001 := n3_
                    have HO207 := n4_
                    have HO210 := n5_
                    have HO213 := n6_
                    have HO218 := n7_
                    have HO221 := n8_
                    have BK180 := n9_
                    have HB := n10_
                    clear n0_ n1_ n2_ n3_ n4_ n5_ n6_ n7_ n8_ n9_ n10_
                    (try clear hb)
                    (try clear hb2)
                    (try clear hk)
                    (try clear hi)
                    (try clear ho0)
                    have hcv89 := own_string (P := Try.prog) Try.underlying22 Try.underlying5 Try.underlying9 (Kd.own_of_R HO_8.out)
                    refine hK.out _ _ ⟨(blk_cell BK180.out 0).trans rfl, (blk_cell BK180.out 1).trans rfl, own_string (P := Try.prog) Try.underlying22 Try.underlying5 Try.underlying9 (Kd.own_of_R HO213.out), own_string (P := Try.prog) Try.underlying22 Try.underlying5 Try.underlying9 (Kd.own_of_R HO_8.out)⟩ (fun hHeld => ?_)
                    clear hK K
                    refine norm_ (a' := ?_) ?_ ?_
                    rotate_left
                    · show Act.put _ (some 87) _ = _
                      simp only [Act.put, List.setIfInBounds_toArray, List.set_cons_zero, List.set_cons_succ, i64_w, i32_w]
                      rfl
                    refine one_ (i := 24) (N := some 88) #[true, true, true, true, true, true, true, true, true, true, true, true, true, true, true, true, true, true, true, true, true, true, true, true, true, true, true, false, false, false, false, false, false] rfl rfl (one_of HT_.out (by kernel_rfl)) (by decide) (fun K hK => ?_)
                    have hcv88 := own_string (P := Try.prog) Try.underlying22 Try.underlying5 Try.underlying9 (Kd.own_of_R HO221.out)
                    refine value_ (w1 := ?_) (v := ?_) (by rfl) rfl ?_ ?_
                    rotate_left 2
                    · go_simp
                      constructor
                      · rfl
                      · rfl
                    clear hcv88
                    refine hK.out _ _ ⟨(blk_cell BK180.out 0).trans rfl, (blk_cell BK180.out 1).trans rfl, own_string (P := Try.prog) Try.underlying22 Try.underlying5 Try.underlying9 (Kd.own_of_R HO213.out), own_string (P := Try.prog) Try.underlying22 Try.underlying5 Try.underlying9 (Kd.own_of_R HO_8.out)⟩ (fun hHeld => ?_)
                    clear hK K
                    refine norm_ (a' := ?_) ?_ ?_
                    rotate_left
                    · show Act.put _ (some 88) _ = _
                      simp only [Act.put, List.setIfInBounds_toArray, List.set_cons_zero, List.set_cons_succ, i64_w, i32_w]
                      rfl
                    refine pure_ (i := 27) (N := some 91) (v := ?_) (a' := ?_) #[true, true, true, true, true, true, true, true, true, true, true, true, true, true, true, true, true, true, true, true, true, true, true, true, true, true, true, true, false, false, false, false, false] rfl rfl (any_of HT_.out (by kernel_rfl)) (fun _ _ _ h => h) (Or.inl ⟨by rfl, ?_⟩) ?_ ?_
                    rotate_left
                    · intro w'
                      go_simp
                      with_reducible rfl
                    rotate_left
                    · simp only [Act.put, List.setIfInBounds_toArray, List.set_cons_zero, List.set_cons_succ, i64_w, i32_w]
                      rfl
                    refine pure_ (i := 28) (N := some 92) (v := ?_) (a' := ?_) #[true, true, true, true, true, true, true, true, true, true, true, true, true, true, true, true, true, true, true, true, true, true, true, true, true, true, true, true, true, false, false, false, false] rfl rfl (any_of HT_.out (by kernel_rfl)) (fun _ _ _ h => h) (Or.inl ⟨by rfl, ?_⟩) ?_ ?_
                    rotate_left
                    · intro w'
                      go_simp
                      with_reducible rfl
                    rotate_left
                    · simp only [Act.put, List.setIfInBounds_toArray, List.set_cons_zero, List.set_cons_succ, i64_w, i32_w]
                      rfl
                    refine pure_ (i := 29) (N := some 93) (v := ?_) (a' := ?_) #[true, true, true, true, true, true, true, true, true, true, true, true, true, true, true, true, true, true, true, true, true, true, true, true, true, true, true, true, true, true, false, false, false] rfl rfl (any_of HT_.out (by kernel_rfl)) (fun _ _ _ h => h) (Or.inl ⟨by rfl, ?_⟩) ?_ ?_
                    rotate_left
                    · intro w'
                      go_simp
                      with_reducible rfl
                    rotate_left
                    · simp only [Act.put, List.setIfInBounds_toArray, List.set_cons_zero, List.set_cons_succ, i64_w, i32_w]
                      rfl
                    refine one_ (i := 30) (N := some 94) #[true, true, true, true, true, true, true, true, true, true, true, true, true, true, true, true, true, true, true, true, true, true, true, true, true, true, true, true, true, true, true, false, false] rfl rfl (one_of HT_.out (by kernel_rfl)) (by decide) (fun K hK => ?_)
                    refine goes_ Try.func20 (by kernel_rfl) rfl #[] (by rfl) rfl rfl (by (try simp only [List.map_toArray, List.map_cons, List.map_nil]); first | done | rfl | (simp only [List.length_drop, List.length_take]; rfl)) ?_
                    with_reducible refine (customslaw33_awake.calls  t222 _ A73.out).mono ?_
                    rintro e w91 ⟨rfl, hb⟩
                    refine ⟨_, rfl, ?_⟩
                    have n0_ := Aside0.mk (Kd.V_below (by exact pV HO_0.out) hb)
                    have n1_ := Aside0.mk (Kd.R_below (by exact pR HO_8.out) hb)
                    have n2_ := Aside0.mk (Kd.R_below (by exact pR HO_181000.out) hb)
                    have n3_ := Aside0.mk (Kd.R_below (by exact pR HO_181001.out) hb)
                    have n4_ := Aside0.mk (Kd.R_below (by exact pR HO207.out) hb)
                    have n5_ := Aside0.mk (Kd.R_below (by exact pR HO210.out) hb)
                    have n6_ := Aside0.mk (Kd.R_below (by exact pR HO213.out) hb)
                    have n7_ := Aside0.mk (Kd.V_below (by exact pV HO218.out) hb)
                    have n8_ := Aside0.mk (Kd.R_below (by exact pR HO221.out) hb)
                    have n9_ := Aside0.mk (blk_below (g := gb180) (o := .cells #[.slice Ao75 x181000_1.length co75, .slice Ao76 x181001_1.length co76] 24 (0, 0)) (by exact pK BK180.out) hb)
                    have n10_ := Aside0.mk (below_step (by exact pB HB.out) hb)
                    clear HO_0
                    clear HO_8
                    clear HO_181000
                    clear HO_181001
                    clear HO207
                    clear HO210
                    clear HO213
                    clear HO218
                    clear HO221
                    clear BK180
                    clear HB
                    have HO_0 := n0_
                    have HO_8 := n1_
                    have HO_181000 := n2_
                    have HO_181001 := n3_
                    have HO207 := n4_
                    have HO210 := n5_
                    have HO213 := n6_
                    have HO218 := n7_
                    have HO221 := n8_
                    have BK180 := n9_
                    have HB := n10_
                    clear n0_ n1_ n2_ n3_ n4_ n5_ n6_ n7_ n8_ n9_ n10_
                    (try clear hb)
                    (try clear hb2)
                    (try clear hk)
                    (try clear hi)
                    refine hK.out _ _ ⟨(blk_cell BK180.out 0).trans rfl, (blk_cell BK180.out 1).trans rfl, own_string (P := Try.prog) Try.underlying22 Try.underlying5 Try.underlying9 (Kd.own_of_R HO213.out), own_string (P := Try.prog) Try.underlying22 Try.underlying5 Try.underlying9 (Kd.own_of_R HO_8.out)⟩ (fun hHeld => ?_)
                    clear hK K
                    refine norm_ (a' := ?_) ?_ ?_
                    rotate_left
                    · show Act.put _ (some 94) _ = _
                      simp only [Act.put, List.setIfInBounds_toArray, List.set_cons_zero, List.set_cons_succ, i64_w, i32_w]
                      rfl
                    refine pure_ (i := 31) (N := some 95) (v := ?_) (a' := ?_) #[true, true, true, true, true, true, true, true, true, true, true, true, true, true, true, true, true, true, true, true, true, true, true, true, true, true, true, true, true, true, true, true, false] rfl rfl (any_of HT_.out (by kernel_rfl)) (fun _ _ _ h => h) (Or.inl ⟨by rfl, ?_⟩) ?_ ?_
                    rotate_left
                    · intro w'
                      go_simp
                      with_reducible rfl
                    rotate_left
                    · simp only [Act.put, List.setIfInBounds_toArray, List.set_cons_zero, List.set_cons_succ, i64_w, i32_w]
                      rfl
                    refine pure_ (i := 32) (N := some 6) (v := ?_) (a' := ?_) #[true, true, true, true, true, true, true, true, true, true, true, true, true, true, true, true, true, true, true, true, true, true, true, true, true, true, true, true, true, true, true, true, true] rfl rfl (any_of HT_.out (by kernel_rfl)) (fun _ _ _ h => h) (Or.inl ⟨by rfl, ?_⟩) ?_ ?_
                    rotate_left
                    · intro w'
                      go_simp
                      with_reducible rfl
                    rotate_left
                    · simp only [Act.put, List.setIfInBounds_toArray, List.set_cons_zero, List.set_cons_succ, i64_w, i32_w]
                      rfl
                    refine done_ (done_of HT_.out (by kernel_rfl)) ?_
                    try go_wp2
                    go_ret
                    exact ⟨by first | rfl | (rw [HTR.out]; first | done | rfl) | (simp [errW_none, errW_some] <;> rfl) | (simp [*, errW_none, errW_some] <;> rfl), by exact pB HB.out⟩
                  · rw [if_neg c72] at H
                    have c72b0 : ((strOfNums t219).toList == (strOfNums x8_1).toList) = false := beq_eq_false_iff_ne.mpr c72
                    have c72b1 : ((strOfNums t219).toList != (strOfNums x8_1).toList) = true := bne_iff_ne.mpr c72
                    exact absurd (Option.some.inj H) (by simp)
                · rw [if_neg c70] at H
                  have c70b0 : ((strOfNums t211).toList == (strOfNums y214).toList) = false := beq_eq_false_iff_ne.mpr c70
                  have c70b1 : ((strOfNums t211).toList != (strOfNums y214).toList) = true := bne_iff_ne.mpr c70
                  exact absurd (Option.some.inj H) (by simp)
              · rw [if_neg c67] at H
                have c67b0 : decide ((t211.length : Int) ≤ (x8_1.length : Int)) = false := decide_eq_false c67
                have c67b1 : decide (t211.length ≤ x8_1.length) = false := decide_eq_false (fun h => c67 (Int.ofNat_le.mpr h))
                clear c67
                exact absurd (Option.some.inj H) (by simp)
            · rw [if_neg c66] at H
              have c66b0 : decide (x9_1 ≤ (t211.length : Int)) = false := decide_eq_false c66
              clear c66
              exact absurd (Option.some.inj H) (by simp)

end Go.Proofs.Ythnlepmfjhhgfaa.PDiskPrefix
