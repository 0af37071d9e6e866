-- Printed by a patched copy of the kit's printer (wip/prt); nothing here is trusted, Lean checks it.
import Derived.Test.YthnlepmfjhhgfaaPDiskPrefixx0
import Derived.Test.YthnlepmfjhhgfaaPDiskPrefixx1
namespace Go.Proofs.Ythnlepmfjhhgfaa.PDiskPrefix
open Go.RowKit Go.Proofs.YthnlepmfjhhgfaaW.PrintWords Go.Proofs.YthnlepmfjhhgfaaW.PrintLast Go.Proofs.YthnlepmfjhhgfaaW.PrintMore
attribute [local go_sem] max2_int min2_int max_two min_two max_three min_three max_four min_four   -- for this text's walks alone
set_option linter.unusedVariables false
set_option linter.unusedSimpArgs false

/-! ### disk_Flip: function 22 -/
def disk_Flip.f (l0_0 : List Int) (l0_1 : List Int) (a1 : Int) : Option (List Int × List Int) := (disk_joined.f l0_0 ([] : List Int)).bind fun t126 => ((disk_joined.f l0_1 ([] : List Int)).bind fun t129 => (if a1 ≥ 0 then (if (wrap64 (Int.tdiv a1 8)) < (t126.length : Int) then (if 0 ≤ (wrap64 (Int.tdiv a1 8)) then (if 0 ≤ (Int.tmod a1 8) then (some ((t126.set ((wrap64 (Int.tdiv a1 8)) : Int).toNat (Go.bits .xor .u8 (rd t126 (wrap64 (Int.tdiv a1 8))) (shl .u8 1 (Int.tmod a1 8)))), t129)) else (none)) else (none)) else (some (t126, t129))) else (some (t126, t129))))
def disk_Flip.T1 : Bool × List (List Nat × List Nat) := (true, [([], []), ([0], [0]), ([1], [1]), ([], []), ([3], [3]), ([4, 2], [4]), ([2, 5], [2, 5]), ([], []), ([7, 6, 5, 0, 1, 2, 3, 4, 5, 6, 7], [6, 7])])
def disk_Flip.B1 : List Nat := [0, 1, 3, 0, 8, 31, 63, 0, 255]
theorem disk_Flip.tab1 : rtab .any (opsOf Try.f22 1) = disk_Flip.T1 := by kernel_rfl
theorem disk_Flip.bits1 : waitsOk disk_Flip.T1.2 disk_Flip.B1 = true := by kernel_rfl
def disk_Flip.T3 : Bool × List (List Nat × List Nat) := (true, [([], []), ([0], [0]), ([], []), ([2], [2]), ([1, 3], [1, 3]), ([4], [4]), ([], []), ([6], [6]), ([7], [7]), ([5, 8], [5, 8]), ([1, 3, 0, 1, 2, 3, 4, 5, 6, 7, 8, 9], [1, 3]), ([10, 9, 0, 1, 2, 3, 4, 5, 6, 7, 8, 9], [9, 10])])
def disk_Flip.B3 : List Nat := [0, 1, 0, 4, 15, 31, 0, 64, 192, 511, 1023, 2047]
theorem disk_Flip.tab3 : rtab .any (opsOf Try.f22 3) = disk_Flip.T3 := by kernel_rfl
theorem disk_Flip.bits3 : waitsOk disk_Flip.T3.2 disk_Flip.B3 = true := by kernel_rfl
set_option maxHeartbeats 8000000 in
set_option maxRecDepth 100000 in
theorem disk_Flip.calls (A0_0 : Option Addr) (c0_0 : Nat) (l0_0 : List Int) (A0_1 : Option Addr) (c0_1 : Nat) (l0_1 : List Int) (a1 : Int) (r1 : List Int) (r2 : List Int) (w : World) (hr0_0 : Kd.C (Kd.int .u8) w A0_0 l0_0.length l0_0) (hc0_0 : l0_0.length ≤ c0_0) (hr0_1 : Kd.C (Kd.int .u8) w A0_1 l0_1.length l0_1) (hc0_1 : l0_1.length ≤ c0_1) (h : disk_Flip.f l0_0 l0_1 a1 = some (r1, r2)) :
    Calls Try.prog 22 #[.agg #[.slice A0_0 l0_0.length c0_0, .slice A0_1 l0_1.length c0_1], .int .i64 a1] w fun e w' => ∃ v0_ v1_ : Value, e = .returned (.agg #[v0_, v1_]) ∧ Kd.R (Kd.int .u8) 5 w' w.heap.size (fun k_ => some k_ ≠ (v1_ : Value).ownBlock) v0_ r1 ∧ Kd.R (Kd.int .u8) 5 w' w.heap.size (fun k_ => some k_ ≠ (v0_ : Value).ownBlock) v1_ r2 ∧ Below w.heap.size w w' := by
  have hu24 := Try.underlying24
  have HR0_0 := Aside0.mk hr0_0
  have HC0_0 := Aside0.mk hc0_0
  clear hr0_0 hc0_0
  have HR0_1 := Aside0.mk hr0_1
  have HC0_1 := Aside0.mk hc0_1
  clear hr0_1 hc0_1
  have HB := Aside0.mk (Below.refl w.heap.size w)
  have H : ((disk_joined.f l0_0 ([] : List Int)).bind fun t126 => ((disk_joined.f l0_1 ([] : List Int)).bind fun t129 => (if a1 ≥ 0 then (if (wrap64 (Int.tdiv a1 8)) < (t126.length : Int) then (if 0 ≤ (wrap64 (Int.tdiv a1 8)) then (if 0 ≤ (Int.tmod a1 8) then (some ((t126.set ((wrap64 (Int.tdiv a1 8)) : Int).toNat (Go.bits .xor .u8 (rd t126 (wrap64 (Int.tdiv a1 8))) (shl .u8 1 (Int.tmod a1 8)))), t129)) else (none)) else (none)) else (some (t126, t129))) else (some (t126, t129))))) = some (r1, r2) := h
  clear h
  replace H := Option.bind_eq_some_iff.mp H
  obtain ⟨t126, A30, H⟩ := H
  replace H : ((disk_joined.f l0_1 ([] : List Int)).bind fun t129 => (if a1 ≥ 0 then (if (wrap64 (Int.tdiv a1 8)) < (t126.length : Int) then (if 0 ≤ (wrap64 (Int.tdiv a1 8)) then (if 0 ≤ (Int.tmod a1 8) then (some ((t126.set ((wrap64 (Int.tdiv a1 8)) : Int).toNat (Go.bits .xor .u8 (rd t126 (wrap64 (Int.tdiv a1 8))) (shl .u8 1 (Int.tmod a1 8)))), t129)) else (none)) else (none)) else (some (t126, t129))) else (some (t126, t129)))) = some (r1, r2) := H
  have A3 := Aside0.mk A30
  clear A30
  replace H := Option.bind_eq_some_iff.mp H
  obtain ⟨t129, A40, H⟩ := H
  replace H : (if a1 ≥ 0 then (if (wrap64 (Int.tdiv a1 8)) < (t126.length : Int) then (if 0 ≤ (wrap64 (Int.tdiv a1 8)) then (if 0 ≤ (Int.tmod a1 8) then (some ((t126.set ((wrap64 (Int.tdiv a1 8)) : Int).toNat (Go.bits .xor .u8 (rd t126 (wrap64 (Int.tdiv a1 8))) (shl .u8 1 (Int.tmod a1 8)))), t129)) else (none)) else (none)) else (some (t126, t129))) else (some (t126, t129))) = some (r1, r2) := H
  have A4 := Aside0.mk A40
  clear A40
  by_cases c5 : a1 ≥ 0
  · rw [if_pos c5] at H
    have c5b0 : decide (0 ≤ a1) = true := decide_eq_true c5
    clear c5
    by_cases c6 : (wrap64 (Int.tdiv a1 8)) < (t126.length : Int)
    · rw [if_pos c6] at H
      have c6b0 : decide ((wrap64 (Int.tdiv a1 8)) < (t126.length : Int)) = true := decide_eq_true c6
      clear c6
      obtain ⟨ji7, hji7⟩ : ∃ j_ : Int, (wrap64 (Int.tdiv a1 8)) = j_ := ⟨_, rfl⟩
      replace H : (if 0 ≤ (ji7) then (if 0 ≤ (Int.tmod a1 8) then (some ((t126.set ((ji7) : Int).toNat (Go.bits .xor .u8 (rd t126 (ji7)) (shl .u8 1 (Int.tmod a1 8)))), t129)) else (none)) else (none)) = some (r1, r2) := by first | (rw [hji7] at H; exact H) | (simp only [hji7] at H ⊢; exact H)
      (try rw [hji7] at c6b0)
      (try rw [hji7] at A3)
      (try rw [hji7] at A4)
      have hji7w : (IntKind.i64.wrap (Int.tdiv a1 8)) = ji7 := (i64_w _).trans hji7
      have c8 : 0 ≤ (ji7) := by
        refine Classical.byContradiction fun c8 => ?_
        rw [if_neg c8] at H
        exact absurd H (by simp)
      rw [if_pos c8] at H
      have c8b0 : decide (0 ≤ (ji7)) = true := decide_eq_true c8
      clear c8
      obtain ⟨ji9, hji9⟩ : ∃ j_ : Int, (Int.tmod a1 8) = j_ := ⟨_, rfl⟩
      replace H : (if 0 ≤ (ji9) then (some ((t126.set ((ji7) : Int).toNat (Go.bits .xor .u8 (rd t126 (ji7)) (shl .u8 1 (ji9)))), t129)) else (none)) = some (r1, r2) := by first | (rw [hji9] at H; exact H) | (simp only [hji9] at H ⊢; exact H)
      (try rw [hji9] at A3)
      (try rw [hji9] at A4)
      have c10 : 0 ≤ (ji9) := by
        refine Classical.byContradiction fun c10 => ?_
        rw [if_neg c10] at H
        exact absurd H (by simp)
      rw [if_pos c10] at H
      have c10b0 := eq_true c10
      have c10b1 : decide (0 ≤ (ji9)) = true := decide_eq_true c10
      clear c10
      obtain ⟨ji11, hji11⟩ : ∃ j_ : Int, (shl .u8 1 (ji9)) = j_ := ⟨_, rfl⟩
      replace H : (some ((t126.set ((ji7) : Int).toNat (Go.bits .xor .u8 (rd t126 (ji7)) (ji11))), t129)) = some (r1, r2) := by first | (rw [hji11] at H; exact H) | (simp only [hji11] at H ⊢; exact H)
      (try rw [hji11] at A3)
      (try rw [hji11] at A4)
      have hji11_ : (IntKind.u8.wrap (1 * 2 ^ min (ji9).toNat 8)) = ji11 := hji11
      have hji11z : (ji9) ≤ 8 → (IntKind.u8.wrap (1 * 2 ^ (ji9).toNat)) = ji11 := shl_small hji11
      have hji11u : (IntKind.u8.wrap (2 ^ min (ji9).toNat 8)) = ji11 := by have h_ := hji11_; rw [Int.one_mul] at h_; exact h_
      have hji11v : (ji9) ≤ 8 → (IntKind.u8.wrap (2 ^ (ji9).toNat)) = ji11 := fun hle_ => by have h_ := hji11z hle_; rw [Int.one_mul] at h_; exact h_
      obtain ⟨y134, hy134⟩ : ∃ y_ : List Int, y_ = (t126.set ((ji7) : Int).toNat (Go.bits .xor .u8 (rd t126 (ji7)) (ji11))) := ⟨_, rfl⟩
      replace H : (some (y134, t129)) = some (r1, r2) := by first | (rw [hy134]; with_reducible exact H) | (have H2_ := (Option.bind_some _ _).symm.trans H; rw [hy134]; with_reducible exact H2_) | (have H2_ := (Option.bind_some _ _).symm.trans H; with_reducible exact H2_) | with_reducible exact H | (rw [hy134]; exact H) | exact H
      have Ny134 := Aside0.mk hy134
      clear hy134
      simp only [Option.some.injEq, Prod.mk.injEq] at H
      obtain ⟨rfl, rfl⟩ := H
      go_enter Try.func22, Try.ntmps22
      try go_wp2_with (first | ((with_reducible refine gate_dst (N := 2) rfl ?_); (try (refine gate_guard (by rfl) ?_; dsimp only)); refine box_event ?hg (N := 2) ?hd (cs := #[.slice A0_0 l0_0.length c0_0, .slice A0_1 l0_1.length c0_1]) (t := 24) ?hr ?_; (case hd => rfl); (case hg => rfl); (case hr => first | (go_simp; done) | (go_simp; rfl)); intro gb124 hg w13 hbox hb; have n0_ := Aside0.mk (below_step (by exact pB HB.out) hb); have n1_ := Aside0.mk (hbox); have n2_ := Aside0.mk ((by rw [hg]; exact (below_size (by exact pB HB.out)) : w.heap.size ≤ gb124)); have n3_ := Aside0.mk ((by rw [hg]; exact (below_size (by exact pB HB.out)) : w.heap.size ≤ gb124)); clear HB; have HB := n0_; have BK124 := n1_; have GW124 := n2_; have GE124 := n3_; clear n0_ n1_ n2_ n3_; clear hb hbox hg) | ((with_reducible refine gate_dst (N := 4) rfl ?_); (try (refine gate_guard (by rfl) ?_; dsimp only)); refine box_event ?hg (N := 4) ?hd (cs := #[.slice none 0 0, .slice none 0 0]) (t := 24) ?hr ?_; (case hd => rfl); (case hg => rfl); (case hr => first | (go_simp; done) | (go_simp; rfl)); intro gb125 hg w14 hbox hb; have n0_ := Aside0.mk (blk_below (g := gb124) (o := .cells #[.slice A0_0 l0_0.length c0_0, .slice A0_1 l0_1.length c0_1] 24 (0, 0)) (by exact pK BK124.out) hb); have n1_ := Aside0.mk (below_step (by exact pB HB.out) hb); have n2_ := Aside0.mk (hbox); have n3_ := Aside0.mk ((by rw [hg]; exact (below_size (by exact pB HB.out)) : w.heap.size ≤ gb125)); have n4_ := Aside0.mk ((by rw [hg]; exact (below_size (by exact pB HB.out)) : w.heap.size ≤ gb125)); have n5_ := Aside0.mk ((by rw [hg]; exact Nat.ne_of_lt (blk_lt (g := gb124) (o := .cells #[.slice A0_0 l0_0.length c0_0, .slice A0_1 l0_1.length c0_1] 24 (0, 0)) (by exact pK BK124.out)) : gb124 ≠ gb125)); have n6_ := Aside0.mk ((by rw [hg]; exact Nat.ne_of_gt (blk_lt (g := gb124) (o := .cells #[.slice A0_0 l0_0.length c0_0, .slice A0_1 l0_1.length c0_1] 24 (0, 0)) (by exact pK BK124.out)) : gb125 ≠ gb124)); clear BK124; clear HB; have BK124 := n0_; have HB := n1_; have BK125 := n2_; have GW125 := n3_; have GE125 := n4_; have NB124_125 := n5_; have NB125_124 := n6_; clear n0_ n1_ n2_ n3_ n4_ n5_ n6_; clear hb hbox hg))
      have n0_ := Aside0.mk (blk_drew BK124.out)
      have n1_ := Aside0.mk (blk_drew BK125.out)
      have n2_ := Aside0.mk (below_drew1 HB.out)
      clear BK124
      clear BK125
      clear HB
      have BK124 := n0_
      have BK125 := n1_
      have HB := n2_
      clear n0_ n1_ n2_
      refine start_ (n := 9) (S := fun w' => w'.cell? ⟨gb124, 0, none⟩ = some (.slice A0_0 l0_0.length c0_0) ∧ w'.cell? ⟨gb124, 1, none⟩ = some (.slice A0_1 l0_1.length c0_1)) (ds := []) #[false, false, false, false, false, false, false, false, false] (by kernel_rfl) rfl rfl ⟨(blk_cell BK124.out 0).trans rfl, (blk_cell BK124.out 1).trans rfl⟩ (fun hHeld => ?_); refine with_tabW disk_Flip.tab1 disk_Flip.bits1 (fun HT_ HW_ => ?_)
      generalize w14.drew = w15 at BK124 BK125 HB hHeld ⊢
      refine pure_ (i := 0) (N := some 6) (v := ?_) (a' := ?_) #[true, false, false, false, false, false, false, false, false] rfl rfl (any_of HT_.out (by kernel_rfl)) (fun _ _ _ h => h) (Or.inl ⟨by rfl, ?_⟩) ?_ ?_
      rotate_left
      · intro w'
        go_simp
        with_reducible rfl
      rotate_left
      · simp only [Act.put, List.setIfInBounds_toArray, List.set_cons_zero, List.set_cons_succ, i64_w, i32_w]
        rfl
      refine pure_ (i := 3) (N := some 9) (v := ?_) (a' := ?_) #[true, false, false, true, false, false, false, false, false] rfl rfl (any_of HT_.out (by kernel_rfl)) (fun _ _ _ h => h) (Or.inl ⟨by rfl, ?_⟩) ?_ ?_
      rotate_left
      · intro w'
        go_simp
        with_reducible rfl
      rotate_left
      · simp only [Act.put, List.setIfInBounds_toArray, List.set_cons_zero, List.set_cons_succ, i64_w, i32_w]
        rfl
      refine take_ (i := 1) (N := some 7) (v := ?_) (a' := ?_) #[true, true, false, true, false, false, false, false, false] rfl rfl (take_ofW HT_.out HW_.out (by kernel_rfl)) (fun _ _ _ h => h) (Or.inl ⟨by rfl, ?_⟩) hHeld ?_ ?_
      rotate_left
      · rintro w' ⟨s0, s1⟩
        go_simp
        with_reducible rfl
      rotate_left
      · simp only [Act.put, List.setIfInBounds_toArray, List.set_cons_zero, List.set_cons_succ, i64_w, i32_w]
        rfl
      refine take_ (i := 4) (N := some 10) (v := ?_) (a' := ?_) #[true, true, false, true, true, false, false, false, false] rfl rfl (take_ofW HT_.out HW_.out (by kernel_rfl)) (fun _ _ _ h => h) (Or.inl ⟨by rfl, ?_⟩) hHeld ?_ ?_
      rotate_left
      · rintro w' ⟨s0, s1⟩
        go_simp
        with_reducible rfl
      rotate_left
      · simp only [Act.put, List.setIfInBounds_toArray, List.set_cons_zero, List.set_cons_succ, i64_w, i32_w]
        rfl
      refine join_ (σ := Value × Value × Nat) 1 #[true, true, true, true, true, true, true, true, false] (fun s_ => [(8, s_.1), (11, s_.2.1), (5, .pointer (some ⟨s_.2.2, 0, none⟩)), (12, .agg #[s_.1, s_.2.1])]) (fun s_ w' => (w'.cell? ⟨gb124, 0, none⟩ = some (.slice A0_0 l0_0.length c0_0) ∧ w'.cell? ⟨gb124, 1, none⟩ = some (.slice A0_1 l0_1.length c0_1)) ∧ (Kd.R (Kd.int .u8) 5 w' w.heap.size (fun k_ => some k_ ≠ (s_.2.1 : Value).ownBlock) s_.1 t126) ∧ (Kd.R (Kd.int .u8) 5 w' w.heap.size (fun k_ => some k_ ≠ (s_.1 : Value).ownBlock) s_.2.1 t129) ∧ (w'.heap[gb124]? = some (.cells #[.slice A0_0 l0_0.length c0_0, .slice A0_1 l0_1.length c0_1] 24 (0, 0))) ∧ (w'.heap[gb125]? = some (.cells #[.slice none 0 0, .slice none 0 0] 24 (0, 0))) ∧ (w'.heap[s_.2.2]? = some (.cells #[.slice none 0 0, .slice none 0 0] 24 (0, 0))) ∧ (w.heap.size ≤ s_.2.2) ∧ (w.heap.size ≤ s_.2.2) ∧ (gb124 ≠ s_.2.2) ∧ (s_.2.2 ≠ gb124) ∧ (gb125 ≠ s_.2.2) ∧ (s_.2.2 ≠ gb125) ∧ (Below w.heap.size w w')) ?_ ?_
      rotate_left
      · intro hCont
        refine two_ (i := 2) (j := 7) (Ni := some 8) (Nj := some 5) #[true, true, true, true, true, false, false, false, false] #[true, true, false, true, true, false, false, true, false] rfl rfl rfl rfl (two_of HT_.out (by kernel_rfl)) (by decide) (by decide) (fun K hK => ?_) (fun K hK => ?_)
        · skip
          refine goes_ Try.func41 (by kernel_rfl) rfl #[.slice A0_0 l0_0.length c0_0, .slice none 0 0] (by rfl) rfl rfl (by (try simp only [List.map_toArray, List.map_cons, List.map_nil]); first | done | rfl | (simp only [List.length_drop, List.length_take]; rfl)) ?_
          refine (disk_joined.calls _ _ l0_0 _ _ ([] : List Int) t126 _ ?side1 ?side2 ?side3 ?side4 A3.out).mono ?_
          (case side1 => exact pC (Kd.C_below HR0_0.out HB.out))
          (case side2 => exact HC0_0.out)
          (case side3 => exact Kd.C_nil _ _)
          (case side4 => exact Nat.le_refl _)
          rintro e w16 ⟨v127, rfl, ho0, hb⟩
          refine ⟨_, rfl, ?_⟩
          have n0_ := Aside0.mk (Kd.R_lower ho0 (below_size (by exact pB HB.out)))
          have n1_ := Aside0.mk (blk_below (g := gb124) (o := .cells #[.slice A0_0 l0_0.length c0_0, .slice A0_1 l0_1.length c0_1] 24 (0, 0)) (by exact pK BK124.out) hb)
          have n2_ := Aside0.mk (blk_below (g := gb125) (o := .cells #[.slice none 0 0, .slice none 0 0] 24 (0, 0)) (by exact pK BK125.out) hb)
          have n3_ := Aside0.mk (below_step (by exact pB HB.out) hb)
          clear BK124
          clear BK125
          clear HB
          have HO128 := n0_
          have BK124 := n1_
          have BK125 := n2_
          have HB := n3_
          clear n0_ n1_ n2_ n3_
          (try clear hb)
          (try clear hb2)
          (try clear hk)
          (try clear hi)
          (try clear ho0)
          refine hK.out _ _ ⟨(blk_cell BK124.out 0).trans rfl, (blk_cell BK124.out 1).trans rfl⟩ (fun hHeld => ?_)
          clear hK K
          refine norm_ (a' := ?_) ?_ ?_
          rotate_left
          · show Act.put _ (some 8) _ = _
            simp only [Act.put, List.setIfInBounds_toArray, List.set_cons_zero, List.set_cons_succ, i64_w, i32_w]
            rfl
          refine two_ (i := 5) (j := 7) (Ni := some 11) (Nj := some 5) #[true, true, true, true, true, true, false, false, false] #[true, true, true, true, true, false, false, true, false] rfl rfl rfl rfl (two_of HT_.out (by kernel_rfl)) (by decide) (by decide) (fun K hK => ?_) (fun K hK => ?_)
          · skip
            refine goes_ Try.func41 (by kernel_rfl) rfl #[.slice A0_1 l0_1.length c0_1, .slice none 0 0] (by rfl) rfl rfl (by (try simp only [List.map_toArray, List.map_cons, List.map_nil]); first | done | rfl | (simp only [List.length_drop, List.length_take]; rfl)) ?_
            refine (disk_joined.calls _ _ l0_1 _ _ ([] : List Int) t129 _ ?side1 ?side2 ?side3 ?side4 A4.out).mono ?_
            (case side1 => exact pC (Kd.C_below HR0_1.out HB.out))
            (case side2 => exact HC0_1.out)
            (case side3 => exact Kd.C_nil _ _)
            (case side4 => exact Nat.le_refl _)
            rintro e w17 ⟨v130, rfl, ho0, hb⟩
            refine ⟨_, rfl, ?_⟩
            have n0_ := Aside0.mk (Kd.R_elder' (by exact pR HO128.out) (Kd.R_base ho0) hb)
            have n1_ := Aside0.mk (Kd.R_lower (Kd.R_new' ho0 (Kd.R_lt (by exact pR HO128.out))) (below_size (by exact pB HB.out)))
            have n2_ := Aside0.mk (blk_below (g := gb124) (o := .cells #[.slice A0_0 l0_0.length c0_0, .slice A0_1 l0_1.length c0_1] 24 (0, 0)) (by exact pK BK124.out) hb)
            have n3_ := Aside0.mk (blk_below (g := gb125) (o := .cells #[.slice none 0 0, .slice none 0 0] 24 (0, 0)) (by exact pK BK125.out) hb)
            have n4_ := Aside0.mk (below_step (by exact pB HB.out) hb)
            clear HO128
            clear BK124
            clear BK125
            clear HB
            have HO128 := n0_
            have HO131 := n1_
            have BK124 := n2_
            have BK125 := n3_
            have HB := n4_
            clear n0_ n1_ n2_ n3_ n4_
            (try clear hb)
            (try clear hb2)
            (try clear hk)
            (try clear hi)
            (try clear ho0)
            obtain ⟨Ao18, co18, eo18⟩ := Kd.R_slice HO131.out
            (first | subst eo18 | (injection eo18 with f1_ f2_ f3_; have f4_ := f1_.symm; have f5_ := f3_.symm; clear f1_ f2_ f3_; subst f4_; subst f5_))
            obtain ⟨Ao19, co19, eo19⟩ := Kd.R_slice HO128.out
            (first | subst eo19 | (injection eo19 with f1_ f2_ f3_; have f4_ := f1_.symm; have f5_ := f3_.symm; clear f1_ f2_ f3_; subst f4_; subst f5_))
            refine hK.out _ _ ⟨(blk_cell BK124.out 0).trans rfl, (blk_cell BK124.out 1).trans rfl⟩ (fun hHeld => ?_)
            clear hK K
            refine norm_ (a' := ?_) ?_ ?_
            rotate_left
            · show Act.put _ (some 11) _ = _
              simp only [Act.put, List.setIfInBounds_toArray, List.set_cons_zero, List.set_cons_succ, i64_w, i32_w]
              rfl
            refine pure_ (i := 6) (N := some 12) (v := ?_) (a' := ?_) #[true, true, true, true, true, true, true, false, false] rfl rfl (any_of HT_.out (by kernel_rfl)) (fun _ _ _ h => h) (Or.inl ⟨by rfl, ?_⟩) ?_ ?_
            rotate_left
            · intro w'
              go_simp
              with_reducible rfl
            rotate_left
            · simp only [Act.put, List.setIfInBounds_toArray, List.set_cons_zero, List.set_cons_succ, i64_w, i32_w]
              rfl
            refine one_ (i := 7) (N := some 5) #[true, true, true, true, true, true, true, true, false] rfl rfl (one_of HT_.out (by kernel_rfl)) (by decide) (fun K hK => ?_)
            refine box_step ?hg (N := 5) ?hd (cs := #[.slice none 0 0, .slice none 0 0]) (t := 24) ?hr ?_; (case hd => rfl); (case hg => rfl); (case hr => first | (go_simp; done) | (go_simp; rfl))
            intro gb132 hg w20 hbox hb
            have n0_ := Aside0.mk (Kd.R_below (by exact pR HO128.out) hb)
            have n1_ := Aside0.mk (Kd.R_below (by exact pR HO131.out) hb)
            have n2_ := Aside0.mk (blk_below (g := gb124) (o := .cells #[.slice A0_0 l0_0.length c0_0, .slice A0_1 l0_1.length c0_1] 24 (0, 0)) (by exact pK BK124.out) hb)
            have n3_ := Aside0.mk (blk_below (g := gb125) (o := .cells #[.slice none 0 0, .slice none 0 0] 24 (0, 0)) (by exact pK BK125.out) hb)
            have n4_ := Aside0.mk (below_step (by exact pB HB.out) hb)
            have n5_ := Aside0.mk (hbox)
            have n6_ := Aside0.mk ((by rw [hg]; exact (below_size (by exact pB HB.out)) : w.heap.size ≤ gb132))
            have n7_ := Aside0.mk ((by rw [hg]; exact (below_size (by exact pB HB.out)) : w.heap.size ≤ gb132))
            have n8_ := Aside0.mk ((by rw [hg]; exact Nat.ne_of_lt (blk_lt (g := gb124) (o := .cells #[.slice A0_0 l0_0.length c0_0, .slice A0_1 l0_1.length c0_1] 24 (0, 0)) (by exact pK BK124.out)) : gb124 ≠ gb132))
            have n9_ := Aside0.mk ((by rw [hg]; exact Nat.ne_of_gt (blk_lt (g := gb124) (o := .cells #[.slice A0_0 l0_0.length c0_0, .slice A0_1 l0_1.length c0_1] 24 (0, 0)) (by exact pK BK124.out)) : gb132 ≠ gb124))
            have n10_ := Aside0.mk ((by rw [hg]; exact Nat.ne_of_lt (blk_lt (g := gb125) (o := .cells #[.slice none 0 0, .slice none 0 0] 24 (0, 0)) (by exact pK BK125.out)) : gb125 ≠ gb132))
            have n11_ := Aside0.mk ((by rw [hg]; exact Nat.ne_of_gt (blk_lt (g := gb125) (o := .cells #[.slice none 0 0, .slice none 0 0] 24 (0, 0)) (by exact pK BK125.out)) : gb132 ≠ gb125))
            clear HO128
            clear HO131
            clear BK124
            clear BK125
            clear HB
            have HO128 := n0_
            have HO131 := n1_
            have BK124 := n2_
            have BK125 := n3_
            have HB := n4_
            have BK132 := n5_
            have GW132 := n6_
            have GE132 := n7_
            have NB124_132 := n8_
            have NB132_124 := n9_
            have NB125_132 := n10_
            have NB132_125 := n11_
            clear n0_ n1_ n2_ n3_ n4_ n5_ n6_ n7_ n8_ n9_ n10_ n11_
            clear hb hbox hg
            refine hK.out _ _ ⟨(blk_cell BK124.out 0).trans rfl, (blk_cell BK124.out 1).trans rfl⟩ (fun hHeld => ?_)
            clear hK K
            refine norm_ (a' := ?_) ?_ ?_
            rotate_left
            · show Act.put _ (some 5) _ = _
              simp only [Act.put, List.setIfInBounds_toArray, List.set_cons_zero, List.set_cons_succ, i64_w, i32_w]
              rfl
            exact norm_ (by simp only [putAll, Act.put, List.setIfInBounds_toArray, List.set_cons_zero, List.set_cons_succ]) (hCont (.slice Ao19 t126.length co19, .slice Ao18 t129.length co18, gb132) _ ⟨hHeld, (by exact pR (Kd.R_mono HO128.out (fun _ hk => hk.2))), (by exact pR (Kd.R_mono HO131.out (fun _ hk => hk.2))), (by exact pK BK124.out), (by exact pK BK125.out), (by exact pK BK132.out), GW132.out, GE132.out, NB124_132.out, NB132_124.out, NB125_132.out, NB132_125.out, (by exact pB HB.out)⟩)
          · skip
            refine box_step ?hg (N := 5) ?hd (cs := #[.slice none 0 0, .slice none 0 0]) (t := 24) ?hr ?_; (case hd => rfl); (case hg => rfl); (case hr => first | (go_simp; done) | (go_simp; rfl))
            intro gb132 hg w17 hbox hb
            have n0_ := Aside0.mk (Kd.R_below (by exact pR HO128.out) hb)
            have n1_ := Aside0.mk (blk_below (g := gb124) (o := .cells #[.slice A0_0 l0_0.length c0_0, .slice A0_1 l0_1.length c0_1] 24 (0, 0)) (by exact pK BK124.out) hb)
            have n2_ := Aside0.mk (blk_below (g := gb125) (o := .cells #[.slice none 0 0, .slice none 0 0] 24 (0, 0)) (by exact pK BK125.out) hb)
            have n3_ := Aside0.mk (below_step (by exact pB HB.out) hb)
            have n4_ := Aside0.mk (hbox)
            have n5_ := Aside0.mk ((by rw [hg]; exact (below_size (by exact pB HB.out)) : w.heap.size ≤ gb132))
            have n6_ := Aside0.mk ((by rw [hg]; exact (below_size (by exact pB HB.out)) : w.heap.size ≤ gb132))
            have n7_ := Aside0.mk ((by rw [hg]; exact Nat.ne_of_lt (blk_lt (g := gb124) (o := .cells #[.slice A0_0 l0_0.length c0_0, .slice A0_1 l0_1.length c0_1] 24 (0, 0)) (by exact pK BK124.out)) : gb124 ≠ gb132))
            have n8_ := Aside0.mk ((by rw [hg]; exact Nat.ne_of_gt (blk_lt (g := gb124) (o := .cells #[.slice A0_0 l0_0.length c0_0, .slice A0_1 l0_1.length c0_1] 24 (0, 0)) (by exact pK BK124.out)) : gb132 ≠ gb124))
            have n9_ := Aside0.mk ((by rw [hg]; exact Nat.ne_of_lt (blk_lt (g := gb125) (o := .cells #[.slice none 0 0, .slice none 0 0] 24 (0, 0)) (by exact pK BK125.out)) : gb125 ≠ gb132))
            have n10_ := Aside0.mk ((by rw [hg]; exact Nat.ne_of_gt (blk_lt (g := gb125) (o := .cells #[.slice none 0 0, .slice none 0 0] 24 (0, 0)) (by exact pK BK125.out)) : gb132 ≠ gb125))
            clear HO128
            clear BK124
            clear BK125
            clear HB
            have HO128 := n0_
            have BK124 := n1_
            have BK125 := n2_
            have HB := n3_
            have BK132 := n4_
            have GW132 := n5_
            have GE132 := n6_
            have NB124_132 := n7_
            have NB132_124 := n8_
            have NB125_132 := n9_
            have NB132_125 := n10_
            clear n0_ n1_ n2_ n3_ n4_ n5_ n6_ n7_ n8_ n9_ n10_
            clear hb hbox hg
            refine hK.out _ _ ⟨(blk_cell BK124.out 0).trans rfl, (blk_cell BK124.out 1).trans rfl⟩ (fun hHeld => ?_)
            clear hK K
            refine norm_ (a' := ?_) ?_ ?_
            rotate_left
            · show Act.put _ (some 5) _ = _
              simp only [Act.put, List.setIfInBounds_toArray, List.set_cons_zero, List.set_cons_succ, i64_w, i32_w]
              rfl
            refine one_ (i := 5) (N := some 11) #[true, true, true, true, true, true, false, true, false] rfl rfl (one_of HT_.out (by kernel_rfl)) (by decide) (fun K hK => ?_)
            refine goes_ Try.func41 (by kernel_rfl) rfl #[.slice A0_1 l0_1.length c0_1, .slice none 0 0] (by rfl) rfl rfl (by (try simp only [List.map_toArray, List.map_cons, List.map_nil]); first | done | rfl | (simp only [List.length_drop, List.length_take]; rfl)) ?_
            refine (disk_joined.calls _ _ l0_1 _ _ ([] : List Int) t129 _ ?side1 ?side2 ?side3 ?side4 A4.out).mono ?_
            (case side1 => exact pC (Kd.C_below HR0_1.out HB.out))
            (case side2 => exact HC0_1.out)
            (case side3 => exact Kd.C_nil _ _)
            (case side4 => exact Nat.le_refl _)
            rintro e w18 ⟨v130, rfl, ho0, hb⟩
            refine ⟨_, rfl, ?_⟩
            have n0_ := Aside0.mk (Kd.R_elder' (by exact pR HO128.out) (Kd.R_base ho0) hb)
            have n1_ := Aside0.mk (Kd.R_lower (Kd.R_new' ho0 (Kd.R_lt (by exact pR HO128.out))) (below_size (by exact pB HB.out)))
            have n2_ := Aside0.mk (blk_below (g := gb124) (o := .cells #[.slice A0_0 l0_0.length c0_0, .slice A0_1 l0_1.length c0_1] 24 (0, 0)) (by exact pK BK124.out) hb)
            have n3_ := Aside0.mk (blk_below (g := gb125) (o := .cells #[.slice none 0 0, .slice none 0 0] 24 (0, 0)) (by exact pK BK125.out) hb)
            have n4_ := Aside0.mk (blk_below (g := gb132) (o := .cells #[.slice none 0 0, .slice none 0 0] 24 (0, 0)) (by exact pK BK132.out) hb)
            have n5_ := Aside0.mk (below_step (by exact pB HB.out) hb)
            clear HO128
            clear BK124
            clear BK125
            clear BK132
            clear HB
            have HO128 := n0_
            have HO131 := n1_
            have BK124 := n2_
            have BK125 := n3_
            have BK132 := n4_
            have HB := n5_
            clear n0_ n1_ n2_ n3_ n4_ n5_
            (try clear hb)
            (try clear hb2)
            (try clear hk)
            (try clear hi)
            (try clear ho0)
            obtain ⟨Ao19, co19, eo19⟩ := Kd.R_slice HO131.out
            (first | subst eo19 | (injection eo19 with f1_ f2_ f3_; have f4_ := f1_.symm; have f5_ := f3_.symm; clear f1_ f2_ f3_; subst f4_; subst f5_))
            obtain ⟨Ao20, co20, eo20⟩ := Kd.R_slice HO128.out
            (first | subst eo20 | (injection eo20 with f1_ f2_ f3_; have f4_ := f1_.symm; have f5_ := f3_.symm; clear f1_ f2_ f3_; subst f4_; subst f5_))
            refine hK.out _ _ ⟨(blk_cell BK124.out 0).trans rfl, (blk_cell BK124.out 1).trans rfl⟩ (fun hHeld => ?_)
            clear hK K
            refine norm_ (a' := ?_) ?_ ?_
            rotate_left
            · show Act.put _ (some 11) _ = _
              simp only [Act.put, List.setIfInBounds_toArray, List.set_cons_zero, List.set_cons_succ, i64_w, i32_w]
              rfl
            refine pure_ (i := 6) (N := some 12) (v := ?_) (a' := ?_) #[true, true, true, true, true, true, true, true, false] rfl rfl (any_of HT_.out (by kernel_rfl)) (fun _ _ _ h => h) (Or.inl ⟨by rfl, ?_⟩) ?_ ?_
            rotate_left
            · intro w'
              go_simp
              with_reducible rfl
            rotate_left
            · simp only [Act.put, List.setIfInBounds_toArray, List.set_cons_zero, List.set_cons_succ, i64_w, i32_w]
              rfl
            exact norm_ (by simp only [putAll, Act.put, List.setIfInBounds_toArray, List.set_cons_zero, List.set_cons_succ]) (hCont (.slice Ao20 t126.length co20, .slice Ao19 t129.length co19, gb132) _ ⟨hHeld, (by exact pR (Kd.R_mono HO128.out (fun _ hk => hk.2))), (by exact pR (Kd.R_mono HO131.out (fun _ hk => hk.2))), (by exact pK BK124.out), (by exact pK BK125.out), (by exact pK BK132.out), GW132.out, GE132.out, NB124_132.out, NB132_124.out, NB125_132.out, NB132_125.out, (by exact pB HB.out)⟩)
        · skip
          refine box_step ?hg (N := 5) ?hd (cs := #[.slice none 0 0, .slice none 0 0]) (t := 24) ?hr ?_; (case hd => rfl); (case hg => rfl); (case hr => first | (go_simp; done) | (go_simp; rfl))
          intro gb132 hg w16 hbox hb
          have n0_ := Aside0.mk (blk_below (g := gb124) (o := .cells #[.slice A0_0 l0_0.length c0_0, .slice A0_1 l0_1.length c0_1] 24 (0, 0)) (by exact pK BK124.out) hb)
          have n1_ := Aside0.mk (blk_below (g := gb125) (o := .cells #[.slice none 0 0, .slice none 0 0] 24 (0, 0)) (by exact pK BK125.out) hb)
          have n2_ := Aside0.mk (below_step (by exact pB HB.out) hb)
          have n3_ := Aside0.mk (hbox)
          have n4_ := Aside0.mk ((by rw [hg]; exact (below_size (by exact pB HB.out)) : w.heap.size ≤ gb132))
          have n5_ := Aside0.mk ((by rw [hg]; exact (below_size (by exact pB HB.out)) : w.heap.size ≤ gb132))
          have n6_ := Aside0.mk ((by rw [hg]; exact Nat.ne_of_lt (blk_lt (g := gb124) (o := .cells #[.slice A0_0 l0_0.length c0_0, .slice A0_1 l0_1.length c0_1] 24 (0, 0)) (by exact pK BK124.out)) : gb124 ≠ gb132))
          have n7_ := Aside0.mk ((by rw [hg]; exact Nat.ne_of_gt (blk_lt (g := gb124) (o := .cells #[.slice A0_0 l0_0.length c0_0, .slice A0_1 l0_1.length c0_1] 24 (0, 0)) (by exact pK BK124.out)) : gb132 ≠ gb124))
          have n8_ := Aside0.mk ((by rw [hg]; exact Nat.ne_of_lt (blk_lt (g := gb125) (o := .cells #[.slice none 0 0, .slice none 0 0] 24 (0, 0)) (by exact pK BK125.out)) : gb125 ≠ gb132))
          have n9_ := Aside0.mk ((by rw [hg]; exact Nat.ne_of_gt (blk_lt (g := gb125) (o := .cells #[.slice none 0 0, .slice none 0 0] 24 (0, 0)) (by exact pK BK125.out)) : gb132 ≠ gb125))
          clear BK124
          clear BK125
          clear HB
          have BK124 := n0_
          have BK125 := n1_
          have HB := n2_
          have BK132 := n3_
          have GW132 := n4_
          have GE132 := n5_
          have NB124_132 := n6_
          have NB132_124 := n7_
          have NB125_132 := n8_
          have NB132_125 := n9_
          clear n0_ n1_ n2_ n3_ n4_ n5_ n6_ n7_ n8_ n9_
          clear hb hbox hg
          refine hK.out _ _ ⟨(blk_cell BK124.out 0).trans rfl, (blk_cell BK124.out 1).trans rfl⟩ (fun hHeld => ?_)
          clear hK K
          refine norm_ (a' := ?_) ?_ ?_
          rotate_left
          · show Act.put _ (some 5) _ = _
            simp only [Act.put, List.setIfInBounds_toArray, List.set_cons_zero, List.set_cons_succ, i64_w, i32_w]
            rfl
          refine one_ (i := 2) (N := some 8) #[true, true, true, true, true, false, false, true, false] rfl rfl (one_of HT_.out (by kernel_rfl)) (by decide) (fun K hK => ?_)
          refine goes_ Try.func41 (by kernel_rfl) rfl #[.slice A0_0 l0_0.length c0_0, .slice none 0 0] (by rfl) rfl rfl (by (try simp only [List.map_toArray, List.map_cons, List.map_nil]); first | done | rfl | (simp only [List.length_drop, List.length_take]; rfl)) ?_
          refine (disk_joined.calls _ _ l0_0 _ _ ([] : List Int) t126 _ ?side1 ?side2 ?side3 ?side4 A3.out).mono ?_
          (case side1 => exact pC (Kd.C_below HR0_0.out HB.out))
          (case side2 => exact HC0_0.out)
          (case side3 => exact Kd.C_nil _ _)
          (case side4 => exact Nat.le_refl _)
          rintro e w17 ⟨v127, rfl, ho0, hb⟩
          refine ⟨_, rfl, ?_⟩
          have n0_ := Aside0.mk (Kd.R_lower ho0 (below_size (by exact pB HB.out)))
          have n1_ := Aside0.mk (blk_below (g := gb124) (o := .cells #[.slice A0_0 l0_0.length c0_0, .slice A0_1 l0_1.length c0_1] 24 (0, 0)) (by exact pK BK124.out) hb)
          have n2_ := Aside0.mk (blk_below (g := gb125) (o := .cells #[.slice none 0 0, .slice none 0 0] 24 (0, 0)) (by exact pK BK125.out) hb)
          have n3_ := Aside0.mk (blk_below (g := gb132) (o := .cells #[.slice none 0 0, .slice none 0 0] 24 (0, 0)) (by exact pK BK132.out) hb)
          have n4_ := Aside0.mk (below_step (by exact pB HB.out) hb)
          clear BK124
          clear BK125
          clear BK132
          clear HB
          have HO128 := n0_
          have BK124 := n1_
          have BK125 := n2_
          have BK132 := n3_
          have HB := n4_
          clear n0_ n1_ n2_ n3_ n4_
          (try clear hb)
          (try clear hb2)
          (try clear hk)
          (try clear hi)
          (try clear ho0)
          refine hK.out _ _ ⟨(blk_cell BK124.out 0).trans rfl, (blk_cell BK124.out 1).trans rfl⟩ (fun hHeld => ?_)
          clear hK K
          refine norm_ (a' := ?_) ?_ ?_
          rotate_left
          · show Act.put _ (some 8) _ = _
            simp only [Act.put, List.setIfInBounds_toArray, List.set_cons_zero, List.set_cons_succ, i64_w, i32_w]
            rfl
          refine one_ (i := 5) (N := some 11) #[true, true, true, true, true, true, false, true, false] rfl rfl (one_of HT_.out (by kernel_rfl)) (by decide) (fun K hK => ?_)
          refine goes_ Try.func41 (by kernel_rfl) rfl #[.slice A0_1 l0_1.length c0_1, .slice none 0 0] (by rfl) rfl rfl (by (try simp only [List.map_toArray, List.map_cons, List.map_nil]); first | done | rfl | (simp only [List.length_drop, List.length_take]; rfl)) ?_
          refine (disk_joined.calls _ _ l0_1 _ _ ([] : List Int) t129 _ ?side1 ?side2 ?side3 ?side4 A4.out).mono ?_
          (case side1 => exact pC (Kd.C_below HR0_1.out HB.out))
          (case side2 => exact HC0_1.out)
          (case side3 => exact Kd.C_nil _ _)
          (case side4 => exact Nat.le_refl _)
          rintro e w18 ⟨v130, rfl, ho0, hb⟩
          refine ⟨_, rfl, ?_⟩
          have n0_ := Aside0.mk (Kd.R_elder' (by exact pR HO128.out) (Kd.R_base ho0) hb)
          have n1_ := Aside0.mk (Kd.R_lower (Kd.R_new' ho0 (Kd.R_lt (by exact pR HO128.out))) (below_size (by exact pB HB.out)))
          have n2_ := Aside0.mk (blk_below (g := gb124) (o := .cells #[.slice A0_0 l0_0.length c0_0, .slice A0_1 l0_1.length c0_1] 24 (0, 0)) (by exact pK BK124.out) hb)
          have n3_ := Aside0.mk (blk_below (g := gb125) (o := .cells #[.slice none 0 0, .slice none 0 0] 24 (0, 0)) (by exact pK BK125.out) hb)
          have n4_ := Aside0.mk (blk_below (g := gb132) (o := .cells #[.slice none 0 0, .slice none 0 0] 24 (0, 0)) (by exact pK BK132.out) hb)
          have n5_ := Aside0.mk (below_step (by exact pB HB.out) hb)
          clear HO128
          clear BK124
          clear BK125
          clear BK132
          clear HB
          have HO128 := n0_
          have HO131 := n1_
          have BK124 := n2_
          have BK125 := n3_
          have BK132 := n4_
          have HB := n5_
          clear n0_ n1_ n2_ n3_ n4_ n5_
          (try clear hb)
          (try clear hb2)
          (try clear hk)
          (try clear hi)
          (try clear ho0)
          obtain ⟨Ao19, co19, eo19⟩ := Kd.R_slice HO131.out
          (first | subst eo19 | (injection eo19 with f1_ f2_ f3_; have f4_ := f1_.symm; have f5_ := f3_.symm; clear f1_ f2_ f3_; subst f4_; subst f5_))
          obtain ⟨Ao20, co20, eo20⟩ := Kd.R_slice HO128.out
          (first | subst eo20 | (injection eo20 with f1_ f2_ f3_; have f4_ := f1_.symm; have f5_ := f3_.symm; clear f1_ f2_ f3_; subst f4_; subst f5_))
          refine hK.out _ _ ⟨(blk_cell BK124.out 0).trans rfl, (blk_cell BK124.out 1).trans rfl⟩ (fun hHeld => ?_)
          clear hK K
          refine norm_ (a' := ?_) ?_ ?_
          rotate_left
          · show Act.put _ (some 11) _ = _
            simp only [Act.put, List.setIfInBounds_toArray, List.set_cons_zero, List.set_cons_succ, i64_w, i32_w]
            rfl
          refine pure_ (i := 6) (N := some 12) (v := ?_) (a' := ?_) #[true, true, true, true, true, true, true, true, false] rfl rfl (any_of HT_.out (by kernel_rfl)) (fun _ _ _ h => h) (Or.inl ⟨by rfl, ?_⟩) ?_ ?_
          rotate_left
          · intro w'
            go_simp
            with_reducible rfl
          rotate_left
          · simp only [Act.put, List.setIfInBounds_toArray, List.set_cons_zero, List.set_cons_succ, i64_w, i32_w]
            rfl
          exact norm_ (by simp only [putAll, Act.put, List.setIfInBounds_toArray, List.set_cons_zero, List.set_cons_succ]) (hCont (.slice Ao20 t126.length co20, .slice Ao19 t129.length co19, gb132) _ ⟨hHeld, (by exact pR (Kd.R_mono HO128.out (fun _ hk => hk.2))), (by exact pR (Kd.R_mono HO131.out (fun _ hk => hk.2))), (by exact pK BK124.out), (by exact pK BK125.out), (by exact pK BK132.out), GW132.out, GE132.out, NB124_132.out, NB132_124.out, NB125_132.out, NB132_125.out, (by exact pB HB.out)⟩)
      rintro ⟨v127, v130, gb132⟩ w21 ⟨hS_, h0_, h1_, h2_, h3_, h4_, h5_, h6_, h7_, h8_, h9_, h10_, h11_⟩
      have n0_ : Aside0 (Kd.R (Kd.int .u8) 5 w21 w.heap.size (fun k_ => some k_ ≠ (v130 : Value).ownBlock) v127 t126) := ⟨h0_⟩
      have n1_ : Aside0 (Kd.R (Kd.int .u8) 5 w21 w.heap.size (fun k_ => some k_ ≠ (v127 : Value).ownBlock) v130 t129) := ⟨h1_⟩
      have n2_ : Aside0 (w21.heap[gb124]? = some (.cells #[.slice A0_0 l0_0.length c0_0, .slice A0_1 l0_1.length c0_1] 24 (0, 0))) := ⟨h2_⟩
      have n3_ : Aside0 (w21.heap[gb125]? = some (.cells #[.slice none 0 0, .slice none 0 0] 24 (0, 0))) := ⟨h3_⟩
      have n4_ : Aside0 (w21.heap[gb132]? = some (.cells #[.slice none 0 0, .slice none 0 0] 24 (0, 0))) := ⟨h4_⟩
      have n5_ : Aside0 (w.heap.size ≤ gb132) := ⟨h5_⟩
      have n6_ : Aside0 (w.heap.size ≤ gb132) := ⟨h6_⟩
      have n7_ : Aside0 (gb124 ≠ gb132) := ⟨h7_⟩
      have n8_ : Aside0 (gb132 ≠ gb124) := ⟨h8_⟩
      have n9_ : Aside0 (gb125 ≠ gb132) := ⟨h9_⟩
      have n10_ : Aside0 (gb132 ≠ gb125) := ⟨h10_⟩
      have n11_ : Aside0 (Below w.heap.size w w21) := ⟨h11_⟩
      clear BK124
      clear BK125
      clear HB
      clear h0_ h1_ h2_ h3_ h4_ h5_ h6_ h7_ h8_ h9_ h10_ h11_
      have HO128 := n0_
      have HO131 := n1_
      have BK124 := n2_
      have BK125 := n3_
      have BK132 := n4_
      have GW132 := n5_
      have GE132 := n6_
      have NB124_132 := n7_
      have NB132_124 := n8_
      have NB125_132 := n9_
      have NB132_125 := n10_
      have HB := n11_
      clear n0_ n1_ n2_ n3_ n4_ n5_ n6_ n7_ n8_ n9_ n10_ n11_
      have hHeld : w21.cell? ⟨gb124, 0, none⟩ = some (.slice A0_0 l0_0.length c0_0) ∧ w21.cell? ⟨gb124, 1, none⟩ = some (.slice A0_1 l0_1.length c0_1) := hS_
      obtain ⟨Ao22, co22, eo22⟩ := Kd.R_slice HO131.out
      (first | subst eo22 | (injection eo22 with f1_ f2_ f3_; have f4_ := f1_.symm; have f5_ := f3_.symm; clear f1_ f2_ f3_; subst f4_; subst f5_))
      obtain ⟨Ao23, co23, eo23⟩ := Kd.R_slice HO128.out
      (first | subst eo23 | (injection eo23 with f1_ f2_ f3_; have f4_ := f1_.symm; have f5_ := f3_.symm; clear f1_ f2_ f3_; subst f4_; subst f5_))
      refine norm_ (a' := ?_) ?_ ?_
      rotate_left
      · simp only [putAll, Act.put, List.setIfInBounds_toArray, List.set_cons_zero, List.set_cons_succ]
        rfl
      refine one_ (i := 8) (N := none) #[true, true, true, true, true, true, true, true, true] rfl rfl (one_of HT_.out (by kernel_rfl)) (by decide) (fun K hK => ?_)
      have hs24 : w21.cell? ⟨gb132, 0, none⟩ = some (.slice none 0 0) := (blk_cell BK132.out 0).trans rfl
      have hfs24 := blk_frozen BK132.out 0
      have hns24_0 := NB124_132.out
      have hns24_1 := NB125_132.out
      have hms24_0 := NB132_124.out
      have hms24_1 := NB132_125.out
      have hs25 : w21.cell? ⟨gb132, 1, none⟩ = some (.slice none 0 0) := (blk_cell BK132.out 1).trans rfl
      have hfs25 := blk_frozen BK132.out 1
      have hns25_0 := NB124_132.out
      have hns25_1 := NB125_132.out
      have hms25_0 := NB132_124.out
      have hms25_1 := NB132_125.out
      refine skip_ (w1 := ?_) (by rfl) rfl ?_ ?_
      rotate_left
      · go_simp
        rfl
      refine hK.out _ _ ⟨((cell_far (p := ⟨gb132, _, none⟩) NB124_132.out _).trans (((cell_far (p := ⟨gb132, _, none⟩) NB124_132.out _).trans (hHeld.1)))), ((cell_far (p := ⟨gb132, _, none⟩) NB124_132.out _).trans (((cell_far (p := ⟨gb132, _, none⟩) NB124_132.out _).trans (hHeld.2))))⟩ (fun hHeld => ?_)
      clear hK K
      refine done_ (done_of HT_.out (by kernel_rfl)) ?_
      have hnb26 := NB132_124.out
      have hnc26 := NB124_132.out
      have hnb27 := NB132_125.out
      have hnc27 := NB125_132.out
      have hcz28_0 : w21.cell? ⟨gb132, 0, none⟩ = some (.slice none 0 0) := (blk_cell BK132.out 0).trans rfl
      have hcz28_1 : w21.cell? ⟨gb132, 1, none⟩ = some (.slice none 0 0) := (blk_cell BK132.out 1).trans rfl
      have hfz28_0 := blk_frozen BK132.out 0
      have hfz28_1 := blk_frozen BK132.out 1
      try go_wp2
      have n0_ : Aside0 (Kd.R (Kd.int .u8) 5 ((w21.setCell ⟨gb132, 0, none⟩ (.slice Ao23 t126.length co23)).setCell ⟨gb132, 1, none⟩ (.slice Ao22 t129.length co22)) w.heap.size (fun k_ => some k_ ≠ (.slice Ao22 t129.length co22 : Value).ownBlock) (.slice Ao23 t126.length co23) t126) := ⟨by (with_reducible repeat (first | apply Kd.R_alloc | apply Kd.R_drewN | apply Kd.R_drew)); exact Kd.R_mono (Kd.R_far (p := ⟨gb132, 1, none⟩) (Kd.R_far (p := ⟨gb132, 0, none⟩) (Kd.R_types HO128.out BK132.out (by decide)) (fun _ hk => hk.2) (.slice Ao23 t126.length co23)) (fun _ hk => hk.2) (.slice Ao22 t129.length co22)) (fun _ hk => hk.1)⟩
      have n1_ : Aside0 (Kd.R (Kd.int .u8) 5 ((w21.setCell ⟨gb132, 0, none⟩ (.slice Ao23 t126.length co23)).setCell ⟨gb132, 1, none⟩ (.slice Ao22 t129.length co22)) w.heap.size (fun k_ => some k_ ≠ (.slice Ao23 t126.length co23 : Value).ownBlock) (.slice Ao22 t129.length co22) t129) := ⟨by (with_reducible repeat (first | apply Kd.R_alloc | apply Kd.R_drewN | apply Kd.R_drew)); exact Kd.R_mono (Kd.R_far (p := ⟨gb132, 1, none⟩) (Kd.R_far (p := ⟨gb132, 0, none⟩) (Kd.R_types HO131.out BK132.out (by decide)) (fun _ hk => hk.2) (.slice Ao23 t126.length co23)) (fun _ hk => hk.2) (.slice Ao22 t129.length co22)) (fun _ hk => hk.1)⟩
      have n2_ : Aside0 (((w21.setCell ⟨gb132, 0, none⟩ (.slice Ao23 t126.length co23)).setCell ⟨gb132, 1, none⟩ (.slice Ao22 t129.length co22)).heap[gb124]? = some (.cells #[.slice A0_0 l0_0.length c0_0, .slice A0_1 l0_1.length c0_1] 24 (0, 0))) := ⟨by (with_reducible repeat (first | refine blk_drewN ?_ _ | refine blk_drew ?_ | refine blk_alloc ?_ _)); refine blk_far ?_ NB124_132.out _; (with_reducible repeat (first | refine blk_drewN ?_ _ | refine blk_drew ?_ | refine blk_alloc ?_ _)); refine blk_far ?_ NB124_132.out _; (with_reducible repeat (first | refine blk_drewN ?_ _ | refine blk_drew ?_ | refine blk_alloc ?_ _)); exact BK124.out⟩
      have n3_ : Aside0 (((w21.setCell ⟨gb132, 0, none⟩ (.slice Ao23 t126.length co23)).setCell ⟨gb132, 1, none⟩ (.slice Ao22 t129.length co22)).heap[gb125]? = some (.cells #[.slice none 0 0, .slice none 0 0] 24 (0, 0))) := ⟨by (with_reducible repeat (first | refine blk_drewN ?_ _ | refine blk_drew ?_ | refine blk_alloc ?_ _)); refine blk_far ?_ NB125_132.out _; (with_reducible repeat (first | refine blk_drewN ?_ _ | refine blk_drew ?_ | refine blk_alloc ?_ _)); refine blk_far ?_ NB125_132.out _; (with_reducible repeat (first | refine blk_drewN ?_ _ | refine blk_drew ?_ | refine blk_alloc ?_ _)); exact BK125.out⟩
      have n4_ : Aside0 (((w21.setCell ⟨gb132, 0, none⟩ (.slice Ao23 t126.length co23)).setCell ⟨gb132, 1, none⟩ (.slice Ao22 t129.length co22)).heap[gb132]? = some (.cells #[.slice Ao23 t126.length co23, .slice Ao22 t129.length co22] 24 (0, 0))) := ⟨by (with_reducible repeat (first | refine blk_drewN ?_ _ | refine blk_drew ?_ | refine blk_alloc ?_ _)); refine blk_put (cs := #[.slice Ao23 t126.length co23, .slice none 0 0]) ?_ 1 _ rfl; (with_reducible repeat (first | refine blk_drewN ?_ _ | refine blk_drew ?_ | refine blk_alloc ?_ _)); refine blk_put (cs := #[.slice none 0 0, .slice none 0 0]) ?_ 0 _ rfl; (with_reducible repeat (first | refine blk_drewN ?_ _ | refine blk_drew ?_ | refine blk_alloc ?_ _)); exact BK132.out⟩
      have n5_ : Aside0 (Below w.heap.size w ((w21.setCell ⟨gb132, 0, none⟩ (.slice Ao23 t126.length co23)).setCell ⟨gb132, 1, none⟩ (.slice Ao22 t129.length co22))) := ⟨by repeat (first | (with_reducible first | exact HB.out | apply below_alloc | apply pw_below_drewN | apply below_drew1 | refine below_set ?_ GE124.out | refine below_set ?_ GE125.out | refine below_set ?_ GE132.out) | exact HB.out)⟩
      (try clear HO128)
      (try clear HO131)
      (try clear BK124)
      (try clear BK125)
      (try clear BK132)
      (try clear HB)
      generalize ((w21.setCell ⟨gb132, 0, none⟩ (.slice Ao23 t126.length co23)).setCell ⟨gb132, 1, none⟩ (.slice Ao22 t129.length co22)) = w29 at n0_ n1_ n2_ n3_ n4_ n5_ ⊢
      have HO128 := n0_
      have HO131 := n1_
      have BK124 := n2_
      have BK125 := n3_
      have BK132 := n4_
      have HB := n5_
      clear n0_ n1_ n2_ n3_ n4_ n5_
      have n0_ := Aside0.mk (Kd.R_drew HO128.out)
      have n1_ := Aside0.mk (Kd.R_drew HO131.out)
      have n2_ := Aside0.mk (blk_drew BK124.out)
      have n3_ := Aside0.mk (blk_drew BK125.out)
      have n4_ := Aside0.mk (blk_drew BK132.out)
      have n5_ := Aside0.mk (below_drew1 HB.out)
      clear HO128
      clear HO131
      clear BK124
      clear BK125
      clear BK132
      clear HB
      have HO128 := n0_
      have HO131 := n1_
      have BK124 := n2_
      have BK125 := n3_
      have BK132 := n4_
      have HB := n5_
      clear n0_ n1_ n2_ n3_ n4_ n5_
      have p133 : 0 ≤ ((ji7) : Int) := of_decide_eq_true (by first | (with_reducible assumption) | assumption)
      have q133 : (ji7) < (t126.length : Int) := of_decide_eq_true (by first | (with_reducible assumption) | assumption)
      obtain ⟨ad133, e133, hx133_0⟩ := Kd.at_int (Kd.R_reads' HO128.out).2.2 (ji7) p133 q133
      cases e133
      replace p133 := eq_true p133
      replace q133 := eq_true q133
      have p12 : 0 ≤ ((ji7) : Int) := of_decide_eq_true (by first | (with_reducible assumption) | assumption)
      have q12 : ((ji7) : Int) < ((t126.length : Int) : Int) := of_decide_eq_true (by first | (with_reducible assumption) | assumption)
      obtain ⟨go12, co12, eo12, gb12, gl12, cl12, HG12⟩ := Kd.R_form HO128.out (by omega)
      (first | cases eo12 | (injection eo12 with ea_ en_ ec_; (first | subst ea_ | (injection ea_ with ea_; subst ea_)); subst ec_; clear en_))
      have GB12 := Aside0.mk gb12
      have GG12 := Aside0.mk HG12
      clear gb12 gl12 HG12
      (first | simp only [add_plain] at hx133_0 | skip)
      obtain ⟨hx12_0, hf12_0⟩ := Kd.R_celln 0 HO128.out ((ji7) : Int) p12 q12
      replace p12 := eq_true p12
      replace q12 := eq_true q12
      have HP31 := Kd.R_putn HO128.out ((ji7) : Int) (Go.bits .xor .u8 (rd t126 (ji7)) (ji11))
      rw [← Ny134.out] at HP31
      have HQ31 := Aside0.mk HP31
      clear HP31
      refine start_ (n := 12) (S := fun w' => w'.cell? ⟨gb132, 0, none⟩ = some (.slice (some ⟨go12, 0, none⟩) t126.length co23) ∧ w'.cell? ⟨gb132, 1, none⟩ = some (.slice Ao22 t129.length co22) ∧ w'.cell? ⟨go12, ((ji7)).toNat, none⟩ = some (.int .u8 (rd t126 (ji7)))) (ds := [11]) #[false, false, false, false, false, false, false, false, false, false, false, false] (by kernel_rfl) rfl rfl ⟨(blk_cell BK132.out 0).trans rfl, (blk_cell BK132.out 1).trans rfl, hx133_0⟩ (fun hHeld => ?_); refine with_tabW disk_Flip.tab3 disk_Flip.bits3 (fun HT_ HW_ => ?_)
      generalize w29.drew = w30 at HO128 HO131 BK124 BK125 BK132 HB GG12 HQ31 hf12_0 hx12_0 hx133_0 hHeld ⊢
      refine pure_ (i := 0) (N := some 23) (v := ?_) (a' := ?_) #[true, false, false, false, false, false, false, false, false, false, false, false] rfl rfl (any_of HT_.out (by kernel_rfl)) (fun _ _ _ h => h) (Or.inl ⟨by rfl, ?_⟩) ?_ ?_
      rotate_left
      · intro w'
        go_simp
        with_reducible rfl
      rotate_left
      · simp only [Act.put, List.setIfInBounds_toArray, List.set_cons_zero, List.set_cons_succ, i64_w, i32_w]
        rfl
      refine pure_ (i := 2) (N := some 25) (v := ?_) (a' := ?_) #[true, false, true, false, false, false, false, false, false, false, false, false] rfl rfl (any_of HT_.out (by kernel_rfl)) (fun _ _ _ h => h) (Or.inl ⟨by rfl, ?_⟩) ?_ ?_
      rotate_left
      · intro w'
        go_simp
        with_reducible rfl
      rotate_left
      · simp only [Act.put, List.setIfInBounds_toArray, List.set_cons_zero, List.set_cons_succ, i64_w, i32_w]
        rfl
      refine pure_ (i := 3) (N := some 26) (v := ?_) (a' := ?_) #[true, false, true, true, false, false, false, false, false, false, false, false] rfl rfl (any_of HT_.out (by kernel_rfl)) (fun _ _ _ h => h) (Or.inl ⟨by rfl, ?_⟩) ?_ ?_
      rotate_left
      · intro w'
        go_simp
        with_reducible rfl
      rotate_left
      · simp only [Act.put, List.setIfInBounds_toArray, List.set_cons_zero, List.set_cons_succ, i64_w, i32_w]
        rfl
      refine pure_ (i := 6) (N := some 29) (v := ?_) (a' := ?_) #[true, false, true, true, false, false, true, false, false, false, false, false] rfl rfl (any_of HT_.out (by kernel_rfl)) (fun _ _ _ h => h) (Or.inl ⟨by rfl, ?_⟩) ?_ ?_
      rotate_left
      · intro w'
        go_simp
        with_reducible rfl
      rotate_left
      · simp only [Act.put, List.setIfInBounds_toArray, List.set_cons_zero, List.set_cons_succ, i64_w, i32_w]
        rfl
      refine pure_ (i := 7) (N := some 30) (v := ?_) (a' := ?_) #[true, false, true, true, false, false, true, true, false, false, false, false] rfl rfl (any_of HT_.out (by kernel_rfl)) (fun _ _ _ h => h) (Or.inl ⟨by rfl, ?_⟩) ?_ ?_
      rotate_left
      · intro w'
        go_simp
        with_reducible rfl
      rotate_left
      · simp only [Act.put, List.setIfInBounds_toArray, List.set_cons_zero, List.set_cons_succ, i64_w, i32_w]
        rfl
      refine pure_ (i := 8) (N := some 31) (v := ?_) (a' := ?_) #[true, false, true, true, false, false, true, true, true, false, false, false] rfl rfl (any_of HT_.out (by kernel_rfl)) (fun _ _ _ h => h) (Or.inl ⟨by rfl, ?_⟩) ?_ ?_
      rotate_left
      · intro w'
        go_simp
        with_reducible rfl
      rotate_left
      · simp only [Act.put, List.setIfInBounds_toArray, List.set_cons_zero, List.set_cons_succ, i64_w, i32_w]
        rfl
      refine take_ (i := 1) (N := some 24) (v := ?_) (a' := ?_) #[true, true, true, true, false, false, true, true, true, false, false, false] rfl rfl (take_ofW HT_.out HW_.out (by kernel_rfl)) (fun _ _ _ h => h) (Or.inl ⟨by rfl, ?_⟩) hHeld ?_ ?_
      rotate_left
      · rintro w' ⟨s0, s1, s2⟩
        go_simp
        with_reducible rfl
      rotate_left
      · simp only [Act.put, List.setIfInBounds_toArray, List.set_cons_zero, List.set_cons_succ, i64_w, i32_w]
        rfl
      refine pure_ (i := 4) (N := some 27) (v := ?_) (a' := ?_) #[true, true, true, true, true, false, true, true, true, false, false, false] rfl rfl (any_of HT_.out (by kernel_rfl)) (fun _ _ _ h => h) (Or.inl ⟨by rfl, ?_⟩) ?_ ?_
      rotate_left
      · intro w'
        go_simp
        with_reducible rfl
      rotate_left
      · simp only [Act.put, List.setIfInBounds_toArray, List.set_cons_zero, List.set_cons_succ, i64_w, i32_w]
        rfl
      refine take_ (i := 5) (N := some 28) (v := ?_) (a' := ?_) #[true, true, true, true, true, true, true, true, true, false, false, false] rfl rfl (take_ofW HT_.out HW_.out (by kernel_rfl)) (fun _ _ _ h => h) (Or.inl ⟨by rfl, ?_⟩) hHeld ?_ ?_
      rotate_left
      · rintro w' ⟨s0, s1, s2⟩
        go_simp
        with_reducible rfl
      rotate_left
      · simp only [Act.put, List.setIfInBounds_toArray, List.set_cons_zero, List.set_cons_succ, i64_w, i32_w]
        rfl
      refine pure_ (i := 9) (N := some 32) (v := ?_) (a' := ?_) #[true, true, true, true, true, true, true, true, true, true, false, false] rfl rfl (any_of HT_.out (by kernel_rfl)) (fun _ _ _ h => h) (Or.inl ⟨by rfl, ?_⟩) ?_ ?_
      rotate_left
      · intro w'
        go_simp
        with_reducible rfl
      rotate_left
      · simp only [Act.put, List.setIfInBounds_toArray, List.set_cons_zero, List.set_cons_succ, i64_w, i32_w]
        rfl
      refine pure_ (i := 10) (N := some 33) (v := ?_) (a' := ?_) #[true, true, true, true, true, true, true, true, true, true, true, false] rfl rfl (any_of HT_.out (by kernel_rfl)) (fun _ _ _ h => h) (Or.inl ⟨by rfl, ?_⟩) ?_ ?_
      rotate_left
      · intro w'
        go_simp
        with_reducible rfl
      rotate_left
      · simp only [Act.put, List.setIfInBounds_toArray, List.set_cons_zero, List.set_cons_succ, i64_w, i32_w]
        rfl
      refine last_ (i := 11) (N := none) #[true, true, true, true, true, true, true, true, true, true, true, true] rfl rfl (one_of HT_.out (by kernel_rfl)) (by decide) (fun K hK => ?_)
      refine skip_ (w1 := ?_) (by rfl) rfl ?_ ?_
      rotate_left
      · go_simp
        rfl
      refine hK.out _ _ ?_
      clear hK K
      refine done_ (done_of HT_.out (by kernel_rfl)) ?_
      have n0_ : Aside0 (Kd.R (Kd.int .u8) 5 (w30.setCell ⟨go12, ((ji7) : Int).toNat, none⟩ (.int .u8 (Go.bits .xor .u8 (rd t126 (ji7)) (ji11)))) w.heap.size (fun k_ => some k_ ≠ (.slice Ao22 t129.length co22 : Value).ownBlock) (.slice (some ⟨go12, 0, none⟩) t126.length co23) y134) := ⟨by (with_reducible repeat (first | apply Kd.R_alloc | apply Kd.R_drewN | apply Kd.R_drew)); exact HQ31.out⟩
      have n1_ : Aside0 (Kd.R (Kd.int .u8) 5 (w30.setCell ⟨go12, ((ji7) : Int).toNat, none⟩ (.int .u8 (Go.bits .xor .u8 (rd t126 (ji7)) (ji11)))) w.heap.size (fun k_ => some k_ ≠ (.slice (some ⟨go12, 0, none⟩) t126.length co23 : Value).ownBlock) (.slice Ao22 t129.length co22) t129) := ⟨by (with_reducible repeat (first | apply Kd.R_alloc | apply Kd.R_drewN | apply Kd.R_drew)); exact Kd.R_mono (Kd.R_far (p := ⟨go12, ((ji7) : Int).toNat, none⟩) (Kd.R_mono HO131.out (fun k_ hk => (⟨hk, fun e_ => hk (by rw [e_]; rfl)⟩ : _ ∧ k_ ≠ go12))) (fun _ hk => hk.2) (.int .u8 (Go.bits .xor .u8 (rd t126 (ji7)) (ji11)))) (fun _ hk => hk.1)⟩
      have n2_ : Aside0 ((w30.setCell ⟨go12, ((ji7) : Int).toNat, none⟩ (.int .u8 (Go.bits .xor .u8 (rd t126 (ji7)) (ji11)))).heap[gb124]? = some (.cells #[.slice A0_0 l0_0.length c0_0, .slice A0_1 l0_1.length c0_1] 24 (0, 0))) := ⟨by (with_reducible repeat (first | refine blk_drewN ?_ _ | refine blk_drew ?_ | refine blk_alloc ?_ _)); refine blk_far ?_ (by have h_ := Kd.R_ne HO128.out BK124.out (by decide); intro e_; exact h_ (by rw [e_]; rfl)) _; (with_reducible repeat (first | refine blk_drewN ?_ _ | refine blk_drew ?_ | refine blk_alloc ?_ _)); exact BK124.out⟩
      have n3_ : Aside0 ((w30.setCell ⟨go12, ((ji7) : Int).toNat, none⟩ (.int .u8 (Go.bits .xor .u8 (rd t126 (ji7)) (ji11)))).heap[gb125]? = some (.cells #[.slice none 0 0, .slice none 0 0] 24 (0, 0))) := ⟨by (with_reducible repeat (first | refine blk_drewN ?_ _ | refine blk_drew ?_ | refine blk_alloc ?_ _)); refine blk_far ?_ (by have h_ := Kd.R_ne HO128.out BK125.out (by decide); intro e_; exact h_ (by rw [e_]; rfl)) _; (with_reducible repeat (first | refine blk_drewN ?_ _ | refine blk_drew ?_ | refine blk_alloc ?_ _)); exact BK125.out⟩
      have n4_ : Aside0 ((w30.setCell ⟨go12, ((ji7) : Int).toNat, none⟩ (.int .u8 (Go.bits .xor .u8 (rd t126 (ji7)) (ji11)))).heap[gb132]? = some (.cells #[.slice (some ⟨go12, 0, none⟩) t126.length co23, .slice Ao22 t129.length co22] 24 (0, 0))) := ⟨by (with_reducible repeat (first | refine blk_drewN ?_ _ | refine blk_drew ?_ | refine blk_alloc ?_ _)); refine blk_far ?_ (by have h_ := Kd.R_ne HO128.out BK132.out (by decide); intro e_; exact h_ (by rw [e_]; rfl)) _; (with_reducible repeat (first | refine blk_drewN ?_ _ | refine blk_drew ?_ | refine blk_alloc ?_ _)); exact BK132.out⟩
      have n5_ : Aside0 (Below w.heap.size w (w30.setCell ⟨go12, ((ji7) : Int).toNat, none⟩ (.int .u8 (Go.bits .xor .u8 (rd t126 (ji7)) (ji11))))) := ⟨by repeat (first | (with_reducible first | exact HB.out | apply below_alloc | apply pw_below_drewN | apply below_drew1 | refine below_set ?_ GB12.out | refine below_set ?_ GE124.out | refine below_set ?_ GE125.out | refine below_set ?_ GE132.out) | exact HB.out)⟩
      (try clear HO128)
      (try clear HO131)
      (try clear BK124)
      (try clear BK125)
      (try clear BK132)
      (try clear HB)
      generalize (w30.setCell ⟨go12, ((ji7) : Int).toNat, none⟩ (.int .u8 (Go.bits .xor .u8 (rd t126 (ji7)) (ji11)))) = w32 at n0_ n1_ n2_ n3_ n4_ n5_ ⊢
      have HO128 := n0_
      have HO131 := n1_
      have BK124 := n2_
      have BK125 := n3_
      have BK132 := n4_
      have HB := n5_
      clear n0_ n1_ n2_ n3_ n4_ n5_
      have hcz33_0 : w32.cell? ⟨gb132, 0, none⟩ = some (.slice (some ⟨go12, 0, none⟩) t126.length co23) := (blk_cell BK132.out 0).trans rfl
      have hcz33_1 : w32.cell? ⟨gb132, 1, none⟩ = some (.slice Ao22 t129.length co22) := (blk_cell BK132.out 1).trans rfl
      have hfz33_0 := blk_frozen BK132.out 0
      have hfz33_1 := blk_frozen BK132.out 1
      have hnb34 := NB125_124.out
      have hnc34 := NB124_125.out
      have hcz35_0 : w32.cell? ⟨gb125, 0, none⟩ = some (.slice none 0 0) := (blk_cell BK125.out 0).trans rfl
      have hcz35_1 : w32.cell? ⟨gb125, 1, none⟩ = some (.slice none 0 0) := (blk_cell BK125.out 1).trans rfl
      have hfz35_0 := blk_frozen BK125.out 0
      have hfz35_1 := blk_frozen BK125.out 1
      try go_wp2
      refine bodyPost_ret (results_cell_row rfl _ _ gb125 24 #[.slice (some ⟨go12, 0, none⟩) t126.length co23, .slice Ao22 t129.length co22] (0, 0) _ rfl (by (with_reducible repeat (first | refine blk_drewN ?_ _ | refine blk_drew ?_ | refine blk_alloc ?_ _)); refine blk_put (cs := #[.slice (some ⟨go12, 0, none⟩) t126.length co23, .slice none 0 0]) ?_ 1 _ rfl; (with_reducible repeat (first | refine blk_drewN ?_ _ | refine blk_drew ?_ | refine blk_alloc ?_ _)); refine blk_put (cs := #[.slice none 0 0, .slice none 0 0]) ?_ 0 _ rfl; (with_reducible repeat (first | refine blk_drewN ?_ _ | refine blk_drew ?_ | refine blk_alloc ?_ _)); exact BK125.out) Try.underlying24 rfl (by kernel_rfl)) rfl ?_
      exact ⟨_, _, by first | rfl | (simp [errW_none, errW_some] <;> rfl) | (simp only [← hji7, ← hji9, ← hji11]; first | rfl | (simp [errW_none, errW_some] <;> rfl)) | (simp [*, errW_none, errW_some] <;> rfl), by (with_reducible repeat (first | apply Kd.R_alloc | apply Kd.R_drewN | apply Kd.R_drew)); exact Kd.R_mono (Kd.R_far (p := ⟨gb125, 1, none⟩) (Kd.R_far (p := ⟨gb125, 0, none⟩) (Kd.R_types HO128.out BK125.out (by decide)) (fun _ hk => hk.2) (.slice (some ⟨go12, 0, none⟩) t126.length co23)) (fun _ hk => hk.2) (.slice Ao22 t129.length co22)) (fun _ hk => hk.1), by (with_reducible repeat (first | apply Kd.R_alloc | apply Kd.R_drewN | apply Kd.R_drew)); exact Kd.R_mono (Kd.R_far (p := ⟨gb125, 1, none⟩) (Kd.R_far (p := ⟨gb125, 0, none⟩) (Kd.R_types HO131.out BK125.out (by decide)) (fun _ hk => hk.2) (.slice (some ⟨go12, 0, none⟩) t126.length co23)) (fun _ hk => hk.2) (.slice Ao22 t129.length co22)) (fun _ hk => hk.1), by repeat (first | (with_reducible first | exact HB.out | apply below_alloc | apply pw_below_drewN | apply below_drew1 | refine below_set ?_ GE124.out | refine below_set ?_ GE125.out | refine below_set ?_ GE132.out) | exact HB.out)⟩
    · rw [if_neg c6] at H
      have c6b0 : decide ((wrap64 (Int.tdiv a1 8)) < (t126.length : Int)) = false := decide_eq_false c6
      clear c6
      simp only [Option.some.injEq, Prod.mk.injEq] at H
      obtain ⟨rfl, rfl⟩ := H
      go_enter Try.func22, Try.ntmps22
      try go_wp2_with (first | ((with_reducible refine gate_dst (N := 2) rfl ?_); (try (refine gate_guard (by rfl) ?_; dsimp only)); refine box_event ?hg (N := 2) ?hd (cs := #[.slice A0_0 l0_0.length c0_0, .slice A0_1 l0_1.length c0_1]) (t := 24) ?hr ?_; (case hd => rfl); (case hg => rfl); (case hr => first | (go_simp; done) | (go_simp; rfl)); intro gb124 hg w36 hbox hb; have n0_ := Aside0.mk (below_step (by exact pB HB.out) hb); have n1_ := Aside0.mk (hbox); have n2_ := Aside0.mk ((by rw [hg]; exact (below_size (by exact pB HB.out)) : w.heap.size ≤ gb124)); have n3_ := Aside0.mk ((by rw [hg]; exact (below_size (by exact pB HB.out)) : w.heap.size ≤ gb124)); clear HB; have HB := n0_; have BK124 := n1_; have GW124 := n2_; have GE124 := n3_; clear n0_ n1_ n2_ n3_; clear hb hbox hg) | ((with_reducible refine gate_dst (N := 4) rfl ?_); (try (refine gate_guard (by rfl) ?_; dsimp only)); refine box_event ?hg (N := 4) ?hd (cs := #[.slice none 0 0, .slice none 0 0]) (t := 24) ?hr ?_; (case hd => rfl); (case hg => rfl); (case hr => first | (go_simp; done) | (go_simp; rfl)); intro gb125 hg w37 hbox hb; have n0_ := Aside0.mk (blk_below (g := gb124) (o := .cells #[.slice A0_0 l0_0.length c0_0, .slice A0_1 l0_1.length c0_1] 24 (0, 0)) (by exact pK BK124.out) hb); have n1_ := Aside0.mk (below_step (by exact pB HB.out) hb); have n2_ := Aside0.mk (hbox); have n3_ := Aside0.mk ((by rw [hg]; exact (below_size (by exact pB HB.out)) : w.heap.size ≤ gb125)); have n4_ := Aside0.mk ((by rw [hg]; exact (below_size (by exact pB HB.out)) : w.heap.size ≤ gb125)); have n5_ := Aside0.mk ((by rw [hg]; exact Nat.ne_of_lt (blk_lt (g := gb124) (o := .cells #[.slice A0_0 l0_0.length c0_0, .slice A0_1 l0_1.length c0_1] 24 (0, 0)) (by exact pK BK124.out)) : gb124 ≠ gb125)); have n6_ := Aside0.mk ((by rw [hg]; exact Nat.ne_of_gt (blk_lt (g := gb124) (o := .cells #[.slice A0_0 l0_0.length c0_0, .slice A0_1 l0_1.length c0_1] 24 (0, 0)) (by exact pK BK124.out)) : gb125 ≠ gb124)); clear BK124; clear HB; have BK124 := n0_; have HB := n1_; have BK125 := n2_; have GW125 := n3_; have GE125 := n4_; have NB124_125 := n5_; have NB125_124 := n6_; clear n0_ n1_ n2_ n3_ n4_ n5_ n6_; clear hb hbox hg))
      have n0_ := Aside0.mk (blk_drew BK124.out)
      have n1_ := Aside0.mk (blk_drew BK125.out)
      have n2_ := Aside0.mk (below_drew1 HB.out)
      clear BK124
      clear BK125
      clear HB
      have BK124 := n0_
      have BK125 := n1_
      have HB := n2_
      clear n0_ n1_ n2_
      refine start_ (n := 9) (S := fun w' => w'.cell? ⟨gb124, 0, none⟩ = some (.slice A0_0 l0_0.length c0_0) ∧ w'.cell? ⟨gb124, 1, none⟩ = some (.slice A0_1 l0_1.length c0_1)) (ds := []) #[false, false, false, false, false, false, false, false, false] (by kernel_rfl) rfl rfl ⟨(blk_cell BK124.out 0).trans rfl, (blk_cell BK124.out 1).trans rfl⟩ (fun hHeld => ?_); refine with_tabW disk_Flip.tab1 disk_Flip.bits1 (fun HT_ HW_ => ?_)
      generalize w37.drew = w38 at BK124 BK125 HB hHeld ⊢
      refine pure_ (i := 0) (N := some 6) (v := ?_) (a' := ?_) #[true, false, false, false, false, false, false, false, false] rfl rfl (any_of HT_.out (by kernel_rfl)) (fun _ _ _ h => h) (Or.inl ⟨by rfl, ?_⟩) ?_ ?_
      rotate_left
      · intro w'
        go_simp
        with_reducible rfl
      rotate_left
      · simp only [Act.put, List.setIfInBounds_toArray, List.set_cons_zero, List.set_cons_succ, i64_w, i32_w]
        rfl
      refine pure_ (i := 3) (N := some 9) (v := ?_) (a' := ?_) #[true, false, false, true, false, false, false, false, false] rfl rfl (any_of HT_.out (by kernel_rfl)) (fun _ _ _ h => h) (Or.inl ⟨by rfl, ?_⟩) ?_ ?_
      rotate_left
      · intro w'
        go_simp
        with_reducible rfl
      rotate_left
      · simp only [Act.put, List.setIfInBounds_toArray, List.set_cons_zero, List.set_cons_succ, i64_w, i32_w]
        rfl
      refine take_ (i := 1) (N := some 7) (v := ?_) (a' := ?_) #[true, true, false, true, false, false, false, false, false] rfl rfl (take_ofW HT_.out HW_.out (by kernel_rfl)) (fun _ _ _ h => h) (Or.inl ⟨by rfl, ?_⟩) hHeld ?_ ?_
      rotate_left
      · rintro w' ⟨s0, s1⟩
        go_simp
        with_reducible rfl
      rotate_left
      · simp only [Act.put, List.setIfInBounds_toArray, List.set_cons_zero, List.set_cons_succ, i64_w, i32_w]
        rfl
      refine take_ (i := 4) (N := some 10) (v := ?_) (a' := ?_) #[true, true, false, true, true, false, false, false, false] rfl rfl (take_ofW HT_.out HW_.out (by kernel_rfl)) (fun _ _ _ h => h) (Or.inl ⟨by rfl, ?_⟩) hHeld ?_ ?_
      rotate_left
      · rintro w' ⟨s0, s1⟩
        go_simp
        with_reducible rfl
      rotate_left
      · simp only [Act.put, List.setIfInBounds_toArray, List.set_cons_zero, List.set_cons_succ, i64_w, i32_w]
        rfl
      refine join_ (σ := Value × Value × Nat) 1 #[true, true, true, true, true, true, true, true, false] (fun s_ => [(8, s_.1), (11, s_.2.1), (5, .pointer (some ⟨s_.2.2, 0, none⟩)), (12, .agg #[s_.1, s_.2.1])]) (fun s_ w' => (w'.cell? ⟨gb124, 0, none⟩ = some (.slice A0_0 l0_0.length c0_0) ∧ w'.cell? ⟨gb124, 1, none⟩ = some (.slice A0_1 l0_1.length c0_1)) ∧ (Kd.R (Kd.int .u8) 5 w' w.heap.size (fun k_ => some k_ ≠ (s_.2.1 : Value).ownBlock) s_.1 t126) ∧ (Kd.R (Kd.int .u8) 5 w' w.heap.size (fun k_ => some k_ ≠ (s_.1 : Value).ownBlock) s_.2.1 t129) ∧ (w'.heap[gb124]? = some (.cells #[.slice A0_0 l0_0.length c0_0, .slice A0_1 l0_1.length c0_1] 24 (0, 0))) ∧ (w'.heap[gb125]? = some (.cells #[.slice none 0 0, .slice none 0 0] 24 (0, 0))) ∧ (w'.heap[s_.2.2]? = some (.cells #[.slice none 0 0, .slice none 0 0] 24 (0, 0))) ∧ (w.heap.size ≤ s_.2.2) ∧ (w.heap.size ≤ s_.2.2) ∧ (gb124 ≠ s_.2.2) ∧ (s_.2.2 ≠ gb124) ∧ (gb125 ≠ s_.2.2) ∧ (s_.2.2 ≠ gb125) ∧ (Below w.heap.size w w')) ?_ ?_
      rotate_left
      · intro hCont
        refine two_ (i := 2) (j := 7) (Ni := some 8) (Nj := some 5) #[true, true, true, true, true, false, false, false, false] #[true, true, false, true, true, false, false, true, false] rfl rfl rfl rfl (two_of HT_.out (by kernel_rfl)) (by decide) (by decide) (fun K hK => ?_) (fun K hK => ?_)
        · skip
          refine goes_ Try.func41 (by kernel_rfl) rfl #[.slice A0_0 l0_0.length c0_0, .slice none 0 0] (by rfl) rfl rfl (by (try simp only [List.map_toArray, List.map_cons, List.map_nil]); first | done | rfl | (simp only [List.length_drop, List.length_take]; rfl)) ?_
          refine (disk_joined.calls _ _ l0_0 _ _ ([] : List Int) t126 _ ?side1 ?side2 ?side3 ?side4 A3.out).mono ?_
          (case side1 => exact pC (Kd.C_below HR0_0.out HB.out))
          (case side2 => exact HC0_0.out)
          (case side3 => exact Kd.C_nil _ _)
          (case side4 => exact Nat.le_refl _)
          rintro e w39 ⟨v127, rfl, ho0, hb⟩
          refine ⟨_, rfl, ?_⟩
          have n0_ := Aside0.mk (Kd.R_lower ho0 (below_size (by exact pB HB.out)))
          have n1_ := Aside0.mk (blk_below (g := gb124) (o := .cells #[.slice A0_0 l0_0.length c0_0, .slice A0_1 l0_1.length c0_1] 24 (0, 0)) (by exact pK BK124.out) hb)
          have n2_ := Aside0.mk (blk_below (g := gb125) (o := .cells #[.slice none 0 0, .slice none 0 0] 24 (0, 0)) (by exact pK BK125.out) hb)
          have n3_ := Aside0.mk (below_step (by exact pB HB.out) hb)
          clear BK124
          clear BK125
          clear HB
          have HO128 := n0_
          have BK124 := n1_
          have BK125 := n2_
          have HB := n3_
          clear n0_ n1_ n2_ n3_
          (try clear hb)
          (try clear hb2)
          (try clear hk)
          (try clear hi)
          (try clear ho0)
          refine hK.out _ _ ⟨(blk_cell BK124.out 0).trans rfl, (blk_cell BK124.out 1).trans rfl⟩ (fun hHeld => ?_)
          clear hK K
          refine norm_ (a' := ?_) ?_ ?_
          rotate_left
          · show Act.put _ (some 8) _ = _
            simp only [Act.put, List.setIfInBounds_toArray, List.set_cons_zero, List.set_cons_succ, i64_w, i32_w]
            rfl
          refine two_ (i := 5) (j := 7) (Ni := some 11) (Nj := some 5) #[true, true, true, true, true, true, false, false, false] #[true, true, true, true, true, false, false, true, false] rfl rfl rfl rfl (two_of HT_.out (by kernel_rfl)) (by decide) (by decide) (fun K hK => ?_) (fun K hK => ?_)
          · skip
            refine goes_ Try.func41 (by kernel_rfl) rfl #[.slice A0_1 l0_1.length c0_1, .slice none 0 0] (by rfl) rfl rfl (by (try simp only [List.map_toArray, List.map_cons, List.map_nil]); first | done | rfl | (simp only [List.length_drop, List.length_take]; rfl)) ?_
            refine (disk_joined.calls _ _ l0_1 _ _ ([] : List Int) t129 _ ?side1 ?side2 ?side3 ?side4 A4.out).mono ?_
            (case side1 => exact pC (Kd.C_below HR0_1.out HB.out))
            (case side2 => exact HC0_1.out)
            (case side3 => exact Kd.C_nil _ _)
            (case side4 => exact Nat.le_refl _)
            rintro e w40 ⟨v130, rfl, ho0, hb⟩
            refine ⟨_, rfl, ?_⟩
            have n0_ := Aside0.mk (Kd.R_elder' (by exact pR HO128.out) (Kd.R_base ho0) hb)
            have n1_ := Aside0.mk (Kd.R_lower (Kd.R_new' ho0 (Kd.R_lt (by exact pR HO128.out))) (below_size (by exact pB HB.out)))
            have n2_ := Aside0.mk (blk_below (g := gb124) (o := .cells #[.slice A0_0 l0_0.length c0_0, .slice A0_1 l0_1.length c0_1] 24 (0, 0)) (by exact pK BK124.out) hb)
            have n3_ := Aside0.mk (blk_below (g := gb125) (o := .cells #[.slice none 0 0, .slice none 0 0] 24 (0, 0)) (by exact pK BK125.out) hb)
            have n4_ := Aside0.mk (below_step (by exact pB HB.out) hb)
            clear HO128
            clear BK124
            clear BK125
            clear HB
            have HO128 := n0_
            have HO131 := n1_
            have BK124 := n2_
            have BK125 := n3_
            have HB := n4_
            clear n0_ n1_ n2_ n3_ n4_
            (try clear hb)
            (try clear hb2)
            (try clear hk)
            (try clear hi)
            (try clear ho0)
            obtain ⟨Ao41, co41, eo41⟩ := Kd.R_slice HO131.out
            (first | subst eo41 | (injection eo41 with f1_ f2_ f3_; have f4_ := f1_.symm; have f5_ := f3_.symm; clear f1_ f2_ f3_; subst f4_; subst f5_))
            obtain ⟨Ao42, co42, eo42⟩ := Kd.R_slice HO128.out
            (first | subst eo42 | (injection eo42 with f1_ f2_ f3_; have f4_ := f1_.symm; have f5_ := f3_.symm; clear f1_ f2_ f3_; subst f4_; subst f5_))
            refine hK.out _ _ ⟨(blk_cell BK124.out 0).trans rfl, (blk_cell BK124.out 1).trans rfl⟩ (fun hHeld => ?_)
            clear hK K
            refine norm_ (a' := ?_) ?_ ?_
            rotate_left
            · show Act.put _ (some 11) _ = _
              simp only [Act.put, List.setIfInBounds_toArray, List.set_cons_zero, List.set_cons_succ, i64_w, i32_w]
              rfl
            refine pure_ (i := 6) (N := some 12) (v := ?_) (a' := ?_) #[true, true, true, true, true, true, true, false, false] rfl rfl (any_of HT_.out (by kernel_rfl)) (fun _ _ _ h => h) (Or.inl ⟨by rfl, ?_⟩) ?_ ?_
            rotate_left
            · intro w'
              go_simp
              with_reducible rfl
            rotate_left
            · simp only [Act.put, List.setIfInBounds_toArray, List.set_cons_zero, List.set_cons_succ, i64_w, i32_w]
              rfl
            refine one_ (i := 7) (N := some 5) #[true, true, true, true, true, true, true, true, false] rfl rfl (one_of HT_.out (by kernel_rfl)) (by decide) (fun K hK => ?_)
            refine box_step ?hg (N := 5) ?hd (cs := #[.slice none 0 0, .slice none 0 0]) (t := 24) ?hr ?_; (case hd => rfl); (case hg => rfl); (case hr => first | (go_simp; done) | (go_simp; rfl))
            intro gb132 hg w43 hbox hb
            have n0_ := Aside0.mk (Kd.R_below (by exact pR HO128.out) hb)
            have n1_ := Aside0.mk (Kd.R_below (by exact pR HO131.out) hb)
            have n2_ := Aside0.mk (blk_below (g := gb124) (o := .cells #[.slice A0_0 l0_0.length c0_0, .slice A0_1 l0_1.length c0_1] 24 (0, 0)) (by exact pK BK124.out) hb)
            have n3_ := Aside0.mk (blk_below (g := gb125) (o := .cells #[.slice none 0 0, .slice none 0 0] 24 (0, 0)) (by exact pK BK125.out) hb)
            have n4_ := Aside0.mk (below_step (by exact pB HB.out) hb)
            have n5_ := Aside0.mk (hbox)
            have n6_ := Aside0.mk ((by rw [hg]; exact (below_size (by exact pB HB.out)) : w.heap.size ≤ gb132))
            have n7_ := Aside0.mk ((by rw [hg]; exact (below_size (by exact pB HB.out)) : w.heap.size ≤ gb132))
            have n8_ := Aside0.mk ((by rw [hg]; exact Nat.ne_of_lt (blk_lt (g := gb124) (o := .cells #[.slice A0_0 l0_0.length c0_0, .slice A0_1 l0_1.length c0_1] 24 (0, 0)) (by exact pK BK124.out)) : gb124 ≠ gb132))
            have n9_ := Aside0.mk ((by rw [hg]; exact Nat.ne_of_gt (blk_lt (g := gb124) (o := .cells #[.slice A0_0 l0_0.length c0_0, .slice A0_1 l0_1.length c0_1] 24 (0, 0)) (by exact pK BK124.out)) : gb132 ≠ gb124))
            have n10_ := Aside0.mk ((by rw [hg]; exact Nat.ne_of_lt (blk_lt (g := gb125) (o := .cells #[.slice none 0 0, .slice none 0 0] 24 (0, 0)) (by exact pK BK125.out)) : gb125 ≠ gb132))
            have n11_ := Aside0.mk ((by rw [hg]; exact Nat.ne_of_gt (blk_lt (g := gb125) (o := .cells #[.slice none 0 0, .slice none 0 0] 24 (0, 0)) (by exact pK BK125.out)) : gb132 ≠ gb125))
            clear HO128
            clear HO131
            clear BK124
            clear BK125
            clear HB
            have HO128 := n0_
            have HO131 := n1_
            have BK124 := n2_
            have BK125 := n3_
            have HB := n4_
            have BK132 := n5_
            have GW132 := n6_
            have GE132 := n7_
            have NB124_132 := n8_
            have NB132_124 := n9_
            have NB125_132 := n10_
            have NB132_125 := n11_
            clear n0_ n1_ n2_ n3_ n4_ n5_ n6_ n7_ n8_ n9_ n10_ n11_
            clear hb hbox hg
            refine hK.out _ _ ⟨(blk_cell BK124.out 0).trans rfl, (blk_cell BK124.out 1).trans rfl⟩ (fun hHeld => ?_)
            clear hK K
            refine norm_ (a' := ?_) ?_ ?_
            rotate_left
            · show Act.put _ (some 5) _ = _
              simp only [Act.put, List.setIfInBounds_toArray, List.set_cons_zero, List.set_cons_succ, i64_w, i32_w]
              rfl
            exact norm_ (by simp only [putAll, Act.put, List.setIfInBounds_toArray, List.set_cons_zero, List.set_cons_succ]) (hCont (.slice Ao42 t126.length co42, .slice Ao41 t129.length co41, gb132) _ ⟨hHeld, (by exact pR (Kd.R_mono HO128.out (fun _ hk => hk.2))), (by exact pR (Kd.R_mono HO131.out (fun _ hk => hk.2))), (by exact pK BK124.out), (by exact pK BK125.out), (by exact pK BK132.out), GW132.out, GE132.out, NB124_132.out, NB132_124.out, NB125_132.out, NB132_125.out, (by exact pB HB.out)⟩)
          · skip
            refine box_step ?hg (N := 5) ?hd (cs := #[.slice none 0 0, .slice none 0 0]) (t := 24) ?hr ?_; (case hd => rfl); (case hg => rfl); (case hr => first | (go_simp; done) | (go_simp; rfl))
            intro gb132 hg w40 hbox hb
            have n0_ := Aside0.mk (Kd.R_below (by exact pR HO128.out) hb)
            have n1_ := Aside0.mk (blk_below (g := gb124) (o := .cells #[.slice A0_0 l0_0.length c0_0, .slice A0_1 l0_1.length c0_1] 24 (0, 0)) (by exact pK BK124.out) hb)
            have n2_ := Aside0.mk (blk_below (g := gb125) (o := .cells #[.slice none 0 0, .slice none 0 0] 24 (0, 0)) (by exact pK BK125.out) hb)
            have n3_ := Aside0.mk (below_step (by exact pB HB.out) hb)
            have n4_ := Aside0.mk (hbox)
            have n5_ := Aside0.mk ((by rw [hg]; exact (below_size (by exact pB HB.out)) : w.heap.size ≤ gb132))
            have n6_ := Aside0.mk ((by rw [hg]; exact (below_size (by exact pB HB.out)) : w.heap.size ≤ gb132))
            have n7_ := Aside0.mk ((by rw [hg]; exact Nat.ne_of_lt (blk_lt (g := gb124) (o := .cells #[.slice A0_0 l0_0.length c0_0, .slice A0_1 l0_1.length c0_1] 24 (0, 0)) (by exact pK BK124.out)) : gb124 ≠ gb132))
            have n8_ := Aside0.mk ((by rw [hg]; exact Nat.ne_of_gt (blk_lt (g := gb124) (o := .cells #[.slice A0_0 l0_0.length c0_0, .slice A0_1 l0_1.length c0_1] 24 (0, 0)) (by exact pK BK124.out)) : gb132 ≠ gb124))
            have n9_ := Aside0.mk ((by rw [hg]; exact Nat.ne_of_lt (blk_lt (g := gb125) (o := .cells #[.slice none 0 0, .slice none 0 0] 24 (0, 0)) (by exact pK BK125.out)) : gb125 ≠ gb132))
            have n10_ := Aside0.mk ((by rw [hg]; exact Nat.ne_of_gt (blk_lt (g := gb125) (o := .cells #[.slice none 0 0, .slice none 0 0] 24 (0, 0)) (by exact pK BK125.out)) : gb132 ≠ gb125))
            clear HO128
            clear BK124
            clear BK125
            clear HB
            have HO128 := n0_
            have BK124 := n1_
            have BK125 := n2_
            have HB := n3_
            have BK132 := n4_
            have GW132 := n5_
            have GE132 := n6_
            have NB124_132 := n7_
            have NB132_124 := n8_
            have NB125_132 := n9_
            have NB132_125 := n10_
            clear n0_ n1_ n2_ n3_ n4_ n5_ n6_ n7_ n8_ n9_ n10_
            clear hb hbox hg
            refine hK.out _ _ ⟨(blk_cell BK124.out 0).trans rfl, (blk_cell BK124.out 1).trans rfl⟩ (fun hHeld => ?_)
            clear hK K
            refine norm_ (a' := ?_) ?_ ?_
            rotate_left
            · show Act.put _ (some 5) _ = _
              simp only [Act.put, List.setIfInBounds_toArray, List.set_cons_zero, List.set_cons_succ, i64_w, i32_w]
              rfl
            refine one_ (i := 5) (N := some 11) #[true, true, true, true, true, true, false, true, false] rfl rfl (one_of HT_.out (by kernel_rfl)) (by decide) (fun K hK => ?_)
            refine goes_ Try.func41 (by kernel_rfl) rfl #[.slice A0_1 l0_1.length c0_1, .slice none 0 0] (by rfl) rfl rfl (by (try simp only [List.map_toArray, List.map_cons, List.map_nil]); first | done | rfl | (simp only [List.length_drop, List.length_take]; rfl)) ?_
            refine (disk_joined.calls _ _ l0_1 _ _ ([] : List Int) t129 _ ?side1 ?side2 ?side3 ?side4 A4.out).mono ?_
            (case side1 => exact pC (Kd.C_below HR0_1.out HB.out))
            (case side2 => exact HC0_1.out)
            (case side3 => exact Kd.C_nil _ _)
            (case side4 => exact Nat.le_refl _)
            rintro e w41 ⟨v130, rfl, ho0, hb⟩
            refine ⟨_, rfl, ?_⟩
            have n0_ := Aside0.mk (Kd.R_elder' (by exact pR HO128.out) (Kd.R_base ho0) hb)
            have n1_ := Aside0.mk (Kd.R_lower (Kd.R_new' ho0 (Kd.R_lt (by exact pR HO128.out))) (below_size (by exact pB HB.out)))
            have n2_ := Aside0.mk (blk_below (g := gb124) (o := .cells #[.slice A0_0 l0_0.length c0_0, .slice A0_1 l0_1.length c0_1] 24 (0, 0)) (by exact pK BK124.out) hb)
            have n3_ := Aside0.mk (blk_below (g := gb125) (o := .cells #[.slice none 0 0, .slice none 0 0] 24 (0, 0)) (by exact pK BK125.out) hb)
            have n4_ := Aside0.mk (blk_below (g := gb132) (o := .cells #[.slice none 0 0, .slice none 0 0] 24 (0, 0)) (by exact pK BK132.out) hb)
            have n5_ := Aside0.mk (below_step (by exact pB HB.out) hb)
            clear HO128
            clear BK124
            clear BK125
            clear BK132
            clear HB
            have HO128 := n0_
            have HO131 := n1_
            have BK124 := n2_
            have BK125 := n3_
            have BK132 := n4_
            have HB := n5_
            clear n0_ n1_ n2_ n3_ n4_ n5_
            (try clear hb)
            (try clear hb2)
            (try clear hk)
            (try clear hi)
            (try clear ho0)
            obtain ⟨Ao42, co42, eo42⟩ := Kd.R_slice HO131.out
            (first | subst eo42 | (injection eo42 with f1_ f2_ f3_; have f4_ := f1_.symm; have f5_ := f3_.symm; clear f1_ f2_ f3_; subst f4_; subst f5_))
            obtain ⟨Ao43, co43, eo43⟩ := Kd.R_slice HO128.out
            (first | subst eo43 | (injection eo43 with f1_ f2_ f3_; have f4_ := f1_.symm; have f5_ := f3_.symm; clear f1_ f2_ f3_; subst f4_; subst f5_))
            refine hK.out _ _ ⟨(blk_cell BK124.out 0).trans rfl, (blk_cell BK124.out 1).trans rfl⟩ (fun hHeld => ?_)
            clear hK K
            refine norm_ (a' := ?_) ?_ ?_
            rotate_left
            · show Act.put _ (some 11) _ = _
              simp only [Act.put, List.setIfInBounds_toArray, List.set_cons_zero, List.set_cons_succ, i64_w, i32_w]
              rfl
            refine pure_ (i := 6) (N := some 12) (v := ?_) (a' := ?_) #[true, true, true, true, true, true, true, true, false] rfl rfl (any_of HT_.out (by kernel_rfl)) (fun _ _ _ h => h) (Or.inl ⟨by rfl, ?_⟩) ?_ ?_
            rotate_left
            · intro w'
              go_simp
              with_reducible rfl
            rotate_left
            · simp only [Act.put, List.setIfInBounds_toArray, List.set_cons_zero, List.set_cons_succ, i64_w, i32_w]
              rfl
            exact norm_ (by simp only [putAll, Act.put, List.setIfInBounds_toArray, List.set_cons_zero, List.set_cons_succ]) (hCont (.slice Ao43 t126.length co43, .slice Ao42 t129.length co42, gb132) _ ⟨hHeld, (by exact pR (Kd.R_mono HO128.out (fun _ hk => hk.2))), (by exact pR (Kd.R_mono HO131.out (fun _ hk => hk.2))), (by exact pK BK124.out), (by exact pK BK125.out), (by exact pK BK132.out), GW132.out, GE132.out, NB124_132.out, NB132_124.out, NB125_132.out, NB132_125.out, (by exact pB HB.out)⟩)
        · skip
          refine box_step ?hg (N := 5) ?hd (cs := #[.slice none 0 0, .slice none 0 0]) (t := 24) ?hr ?_; (case hd => rfl); (case hg => rfl); (case hr => first | (go_simp; done) | (go_simp; rfl))
          intro gb132 hg w39 hbox hb
          have n0_ := Aside0.mk (blk_below (g := gb124) (o := .cells #[.slice A0_0 l0_0.length c0_0, .slice A0_1 l0_1.length c0_1] 24 (0, 0)) (by exact pK BK124.out) hb)
          have n1_ := Aside0.mk (blk_below (g := gb125) (o := .cells #[.slice none 0 0, .slice none 0 0] 24 (0, 0)) (by exact pK BK125.out) hb)
          have n2_ := Aside0.mk (below_step (by exact pB HB.out) hb)
          have n3_ := Aside0.mk (hbox)
          have n4_ := Aside0.mk ((by rw [hg]; exact (below_size (by exact pB HB.out)) : w.heap.size ≤ gb132))
          have n5_ := Aside0.mk ((by rw [hg]; exact (below_size (by exact pB HB.out)) : w.heap.size ≤ gb132))
          have n6_ := Aside0.mk ((by rw [hg]; exact Nat.ne_of_lt (blk_lt (g := gb124) (o := .cells #[.slice A0_0 l0_0.length c0_0, .slice A0_1 l0_1.length c0_1] 24 (0, 0)) (by exact pK BK124.out)) : gb124 ≠ gb132))
          have n7_ := Aside0.mk ((by rw [hg]; exact Nat.ne_of_gt (blk_lt (g := gb124) (o := .cells #[.slice A0_0 l0_0.length c0_0, .slice A0_1 l0_1.length c0_1] 24 (0, 0)) (by exact pK BK124.out)) : gb132 ≠ gb124))
          have n8_ := Aside0.mk ((by rw [hg]; exact Nat.ne_of_lt (blk_lt (g := gb125) (o := .cells #[.slice none 0 0, .slice none 0 0] 24 (0, 0)) (by exact pK BK125.out)) : gb125 ≠ gb132))
          have n9_ := Aside0.mk ((by rw [hg]; exact Nat.ne_of_gt (blk_lt (g := gb125) (o := .cells #[.slice none 0 0, .slice none 0 0] 24 (0, 0)) (by exact pK BK125.out)) : gb132 ≠ gb125))
          clear BK124
          clear BK125
          clear HB
          have BK124 := n0_
          have BK125 := n1_
          have HB := n2_
          have BK132 := n3_
          have GW132 := n4_
          have GE132 := n5_
          have NB124_132 := n6_
          have NB132_124 := n7_
          have NB125_132 := n8_
          have NB132_125 := n9_
          clear n0_ n1_ n2_ n3_ n4_ n5_ n6_ n7_ n8_ n9_
          clear hb hbox hg
          refine hK.out _ _ ⟨(blk_cell BK124.out 0).trans rfl, (blk_cell BK124.out 1).trans rfl⟩ (fun hHeld => ?_)
          clear hK K
          refine norm_ (a' := ?_) ?_ ?_
          rotate_left
          · show Act.put _ (some 5) _ = _
            simp only [Act.put, List.setIfInBounds_toArray, List.set_cons_zero, List.set_cons_succ, i64_w, i32_w]
            rfl
          refine one_ (i := 2) (N := some 8) #[true, true, true, true, true, false, false, true, false] rfl rfl (one_of HT_.out (by kernel_rfl)) (by decide) (fun K hK => ?_)
          refine goes_ Try.func41 (by kernel_rfl) rfl #[.slice A0_0 l0_0.length c0_0, .slice none 0 0] (by rfl) rfl rfl (by (try simp only [List.map_toArray, List.map_cons, List.map_nil]); first | done | rfl | (simp only [List.length_drop, List.length_take]; rfl)) ?_
          refine (disk_joined.calls _ _ l0_0 _ _ ([] : List Int) t126 _ ?side1 ?side2 ?side3 ?side4 A3.out).mono ?_
          (case side1 => exact pC (Kd.C_below HR0_0.out HB.out))
          (case side2 => exact HC0_0.out)
          (case side3 => exact Kd.C_nil _ _)
          (case side4 => exact Nat.le_refl _)
          rintro e w40 ⟨v127, rfl, ho0, hb⟩
          refine ⟨_, rfl, ?_⟩
          have n0_ := Aside0.mk (Kd.R_lower ho0 (below_size (by exact pB HB.out)))
          have n1_ := Aside0.mk (blk_below (g := gb124) (o := .cells #[.slice A0_0 l0_0.length c0_0, .slice A0_1 l0_1.length c0_1] 24 (0, 0)) (by exact pK BK124.out) hb)
          have n2_ := Aside0.mk (blk_below (g := gb125) (o := .cells #[.slice none 0 0, .slice none 0 0] 24 (0, 0)) (by exact pK BK125.out) hb)
          have n3_ := Aside0.mk (blk_below (g := gb132) (o := .cells #[.slice none 0 0, .slice none 0 0] 24 (0, 0)) (by exact pK BK132.out) hb)
          have n4_ := Aside0.mk (below_step (by exact pB HB.out) hb)
          clear BK124
          clear BK125
          clear BK132
          clear HB
          have HO128 := n0_
          have BK124 := n1_
          have BK125 := n2_
          have BK132 := n3_
          have HB := n4_
          clear n0_ n1_ n2_ n3_ n4_
          (try clear hb)
          (try clear hb2)
          (try clear hk)
          (try clear hi)
          (try clear ho0)
          refine hK.out _ _ ⟨(blk_cell BK124.out 0).trans rfl, (blk_cell BK124.out 1).trans rfl⟩ (fun hHeld => ?_)
          clear hK K
          refine norm_ (a' := ?_) ?_ ?_
          rotate_left
          · show Act.put _ (some 8) _ = _
            simp only [Act.put, List.setIfInBounds_toArray, List.set_cons_zero, List.set_cons_succ, i64_w, i32_w]
            rfl
          refine one_ (i := 5) (N := some 11) #[true, true, true, true, true, true, false, true, false] rfl rfl (one_of HT_.out (by kernel_rfl)) (by decide) (fun K hK => ?_)
          refine goes_ Try.func41 (by kernel_rfl) rfl #[.slice A0_1 l0_1.length c0_1, .slice none 0 0] (by rfl) rfl rfl (by (try simp only [List.map_toArray, List.map_cons, List.map_nil]); first | done | rfl | (simp only [List.length_drop, List.length_take]; rfl)) ?_
          refine (disk_joined.calls _ _ l0_1 _ _ ([] : List Int) t129 _ ?side1 ?side2 ?side3 ?side4 A4.out).mono ?_
          (case side1 => exact pC (Kd.C_below HR0_1.out HB.out))
          (case side2 => exact HC0_1.out)
          (case side3 => exact Kd.C_nil _ _)
          (case side4 => exact Nat.le_refl _)
          rintro e w41 ⟨v130, rfl, ho0, hb⟩
          refine ⟨_, rfl, ?_⟩
          have n0_ := Aside0.mk (Kd.R_elder' (by exact pR HO128.out) (Kd.R_base ho0) hb)
          have n1_ := Aside0.mk (Kd.R_lower (Kd.R_new' ho0 (Kd.R_lt (by exact pR HO128.out))) (below_size (by exact pB HB.out)))
          have n2_ := Aside0.mk (blk_below (g := gb124) (o := .cells #[.slice A0_0 l0_0.length c0_0, .slice A0_1 l0_1.length c0_1] 24 (0, 0)) (by exact pK BK124.out) hb)
          have n3_ := Aside0.mk (blk_below (g := gb125) (o := .cells #[.slice none 0 0, .slice none 0 0] 24 (0, 0)) (by exact pK BK125.out) hb)
          have n4_ := Aside0.mk (blk_below (g := gb132) (o := .cells #[.slice none 0 0, .slice none 0 0] 24 (0, 0)) (by exact pK BK132.out) hb)
          have n5_ := Aside0.mk (below_step (by exact pB HB.out) hb)
          clear HO128
          clear BK124
          clear BK125
          clear BK132
          clear HB
          have HO128 := n0_
          have HO131 := n1_
          have BK124 := n2_
          have BK125 := n3_
          have BK132 := n4_
          have HB := n5_
          clear n0_ n1_ n2_ n3_ n4_ n5_
          (try clear hb)
          (try clear hb2)
          (try clear hk)
          (try clear hi)
          (try clear ho0)
          obtain ⟨Ao42, co42, eo42⟩ := Kd.R_slice HO131.out
          (first | subst eo42 | (injection eo42 with f1_ f2_ f3_; have f4_ := f1_.symm; have f5_ := f3_.symm; clear f1_ f2_ f3_; subst f4_; subst f5_))
          obtain ⟨Ao43, co43, eo43⟩ := Kd.R_slice HO128.out
          (first | subst eo43 | (injection eo43 with f1_ f2_ f3_; have f4_ := f1_.symm; have f5_ := f3_.symm; clear f1_ f2_ f3_; subst f4_; subst f5_))
          refine hK.out _ _ ⟨(blk_cell BK124.out 0).trans rfl, (blk_cell BK124.out 1).trans rfl⟩ (fun hHeld => ?_)
          clear hK K
          refine norm_ (a' := ?_) ?_ ?_
          rotate_left
          · show Act.put _ (some 11) _ = _
            simp only [Act.put, List.setIfInBounds_toArray, List.set_cons_zero, List.set_cons_succ, i64_w, i32_w]
            rfl
          refine pure_ (i := 6) (N := some 12) (v := ?_) (a' := ?_) #[true, true, true, true, true, true, true, true, false] rfl rfl (any_of HT_.out (by kernel_rfl)) (fun _ _ _ h => h) (Or.inl ⟨by rfl, ?_⟩) ?_ ?_
          rotate_left
          · intro w'
            go_simp
            with_reducible rfl
          rotate_left
          · simp only [Act.put, List.setIfInBounds_toArray, List.set_cons_zero, List.set_cons_succ, i64_w, i32_w]
            rfl
          exact norm_ (by simp only [putAll, Act.put, List.setIfInBounds_toArray, List.set_cons_zero, List.set_cons_succ]) (hCont (.slice Ao43 t126.length co43, .slice Ao42 t129.length co42, gb132) _ ⟨hHeld, (by exact pR (Kd.R_mono HO128.out (fun _ hk => hk.2))), (by exact pR (Kd.R_mono HO131.out (fun _ hk => hk.2))), (by exact pK BK124.out), (by exact pK BK125.out), (by exact pK BK132.out), GW132.out, GE132.out, NB124_132.out, NB132_124.out, NB125_132.out, NB132_125.out, (by exact pB HB.out)⟩)
      rintro ⟨v127, v130, gb132⟩ w44 ⟨hS_, h0_, h1_, h2_, h3_, h4_, h5_, h6_, h7_, h8_, h9_, h10_, h11_⟩
      have n0_ : Aside0 (Kd.R (Kd.int .u8) 5 w44 w.heap.size (fun k_ => some k_ ≠ (v130 : Value).ownBlock) v127 t126) := ⟨h0_⟩
      have n1_ : Aside0 (Kd.R (Kd.int .u8) 5 w44 w.heap.size (fun k_ => some k_ ≠ (v127 : Value).ownBlock) v130 t129) := ⟨h1_⟩
      have n2_ : Aside0 (w44.heap[gb124]? = some (.cells #[.slice A0_0 l0_0.length c0_0, .slice A0_1 l0_1.length c0_1] 24 (0, 0))) := ⟨h2_⟩
      have n3_ : Aside0 (w44.heap[gb125]? = some (.cells #[.slice none 0 0, .slice none 0 0] 24 (0, 0))) := ⟨h3_⟩
      have n4_ : Aside0 (w44.heap[gb132]? = some (.cells #[.slice none 0 0, .slice none 0 0] 24 (0, 0))) := ⟨h4_⟩
      have n5_ : Aside0 (w.heap.size ≤ gb132) := ⟨h5_⟩
      have n6_ : Aside0 (w.heap.size ≤ gb132) := ⟨h6_⟩
      have n7_ : Aside0 (gb124 ≠ gb132) := ⟨h7_⟩
      have n8_ : Aside0 (gb132 ≠ gb124) := ⟨h8_⟩
      have n9_ : Aside0 (gb125 ≠ gb132) := ⟨h9_⟩
      have n10_ : Aside0 (gb132 ≠ gb125) := ⟨h10_⟩
      have n11_ : Aside0 (Below w.heap.size w w44) := ⟨h11_⟩
      clear BK124
      clear BK125
      clear HB
      clear h0_ h1_ h2_ h3_ h4_ h5_ h6_ h7_ h8_ h9_ h10_ h11_
      have HO128 := n0_
      have HO131 := n1_
      have BK124 := n2_
      have BK125 := n3_
      have BK132 := n4_
      have GW132 := n5_
      have GE132 := n6_
      have NB124_132 := n7_
      have NB132_124 := n8_
      have NB125_132 := n9_
      have NB132_125 := n10_
      have HB := n11_
      clear n0_ n1_ n2_ n3_ n4_ n5_ n6_ n7_ n8_ n9_ n10_ n11_
      have hHeld : w44.cell? ⟨gb124, 0, none⟩ = some (.slice A0_0 l0_0.length c0_0) ∧ w44.cell? ⟨gb124, 1, none⟩ = some (.slice A0_1 l0_1.length c0_1) := hS_
      obtain ⟨Ao45, co45, eo45⟩ := Kd.R_slice HO131.out
      (first | subst eo45 | (injection eo45 with f1_ f2_ f3_; have f4_ := f1_.symm; have f5_ := f3_.symm; clear f1_ f2_ f3_; subst f4_; subst f5_))
      obtain ⟨Ao46, co46, eo46⟩ := Kd.R_slice HO128.out
      (first | subst eo46 | (injection eo46 with f1_ f2_ f3_; have f4_ := f1_.symm; have f5_ := f3_.symm; clear f1_ f2_ f3_; subst f4_; subst f5_))
      refine norm_ (a' := ?_) ?_ ?_
      rotate_left
      · simp only [putAll, Act.put, List.setIfInBounds_toArray, List.set_cons_zero, List.set_cons_succ]
        rfl
      refine one_ (i := 8) (N := none) #[true, true, true, true, true, true, true, true, true] rfl rfl (one_of HT_.out (by kernel_rfl)) (by decide) (fun K hK => ?_)
      have hs47 : w44.cell? ⟨gb132, 0, none⟩ = some (.slice none 0 0) := (blk_cell BK132.out 0).trans rfl
      have hfs47 := blk_frozen BK132.out 0
      have hns47_0 := NB124_132.out
      have hns47_1 := NB125_132.out
      have hms47_0 := NB132_124.out
      have hms47_1 := NB132_125.out
      have hs48 : w44.cell? ⟨gb132, 1, none⟩ = some (.slice none 0 0) := (blk_cell BK132.out 1).trans rfl
      have hfs48 := blk_frozen BK132.out 1
      have hns48_0 := NB124_132.out
      have hns48_1 := NB125_132.out
      have hms48_0 := NB132_124.out
      have hms48_1 := NB132_125.out
      refine skip_ (w1 := ?_) (by rfl) rfl ?_ ?_
      rotate_left
      · go_simp
        rfl
      refine hK.out _ _ ⟨((cell_far (p := ⟨gb132, _, none⟩) NB124_132.out _).trans (((cell_far (p := ⟨gb132, _, none⟩) NB124_132.out _).trans (hHeld.1)))), ((cell_far (p := ⟨gb132, _, none⟩) NB124_132.out _).trans (((cell_far (p := ⟨gb132, _, none⟩) NB124_132.out _).trans (hHeld.2))))⟩ (fun hHeld => ?_)
      clear hK K
      refine done_ (done_of HT_.out (by kernel_rfl)) ?_
      have hnb49 := NB132_124.out
      have hnc49 := NB124_132.out
      have hnb50 := NB132_125.out
      have hnc50 := NB125_132.out
      have hcz51_0 : w44.cell? ⟨gb132, 0, none⟩ = some (.slice none 0 0) := (blk_cell BK132.out 0).trans rfl
      have hcz51_1 : w44.cell? ⟨gb132, 1, none⟩ = some (.slice none 0 0) := (blk_cell BK132.out 1).trans rfl
      have hfz51_0 := blk_frozen BK132.out 0
      have hfz51_1 := blk_frozen BK132.out 1
      have hnb52 := NB125_124.out
      have hnc52 := NB124_125.out
      have hcz53_0 : w44.cell? ⟨gb125, 0, none⟩ = some (.slice none 0 0) := (blk_cell BK125.out 0).trans rfl
      have hcz53_1 : w44.cell? ⟨gb125, 1, none⟩ = some (.slice none 0 0) := (blk_cell BK125.out 1).trans rfl
      have hfz53_0 := blk_frozen BK125.out 0
      have hfz53_1 := blk_frozen BK125.out 1
      try go_wp2
      refine bodyPost_ret (results_cell_row rfl _ _ gb125 24 #[.slice Ao46 t126.length co46, .slice Ao45 t129.length co45] (0, 0) _ rfl (by (with_reducible repeat (first | refine blk_drewN ?_ _ | refine blk_drew ?_ | refine blk_alloc ?_ _)); refine blk_put (cs := #[.slice Ao46 t126.length co46, .slice none 0 0]) ?_ 1 _ rfl; (with_reducible repeat (first | refine blk_drewN ?_ _ | refine blk_drew ?_ | refine blk_alloc ?_ _)); refine blk_put (cs := #[.slice none 0 0, .slice none 0 0]) ?_ 0 _ rfl; (with_reducible repeat (first | refine blk_drewN ?_ _ | refine blk_drew ?_ | refine blk_alloc ?_ _)); refine blk_far ?_ NB125_132.out _; (with_reducible repeat (first | refine blk_drewN ?_ _ | refine blk_drew ?_ | refine blk_alloc ?_ _)); refine blk_far ?_ NB125_132.out _; (with_reducible repeat (first | refine blk_drewN ?_ _ | refine blk_drew ?_ | refine blk_alloc ?_ _)); exact BK125.out) Try.underlying24 rfl (by kernel_rfl)) rfl ?_
      exact ⟨_, _, by first | rfl | (simp [errW_none, errW_some] <;> rfl) | (simp [*, errW_none, errW_some] <;> rfl), by (with_reducible repeat (first | apply Kd.R_alloc | apply Kd.R_drewN | apply Kd.R_drew)); exact Kd.R_mono (Kd.R_far (p := ⟨gb125, 1, none⟩) (Kd.R_far (p := ⟨gb125, 0, none⟩) (Kd.R_far (p := ⟨gb132, 1, none⟩) (Kd.R_far (p := ⟨gb132, 0, none⟩) (Kd.R_types (Kd.R_types HO128.out BK132.out (by decide)) BK125.out (by decide)) (fun _ hk => hk.1.2) (.slice Ao46 t126.length co46)) (fun _ hk => hk.1.2) (.slice Ao45 t129.length co45)) (fun _ hk => hk.2) (.slice Ao46 t126.length co46)) (fun _ hk => hk.2) (.slice Ao45 t129.length co45)) (fun _ hk => hk.1.1), by (with_reducible repeat (first | apply Kd.R_alloc | apply Kd.R_drewN | apply Kd.R_drew)); exact Kd.R_mono (Kd.R_far (p := ⟨gb125, 1, none⟩) (Kd.R_far (p := ⟨gb125, 0, none⟩) (Kd.R_far (p := ⟨gb132, 1, none⟩) (Kd.R_far (p := ⟨gb132, 0, none⟩) (Kd.R_types (Kd.R_types HO131.out BK132.out (by decide)) BK125.out (by decide)) (fun _ hk => hk.1.2) (.slice Ao46 t126.length co46)) (fun _ hk => hk.1.2) (.slice Ao45 t129.length co45)) (fun _ hk => hk.2) (.slice Ao46 t126.length co46)) (fun _ hk => hk.2) (.slice Ao45 t129.length co45)) (fun _ hk => hk.1.1), by repeat (first | (with_reducible first | exact HB.out | apply below_alloc | apply pw_below_drewN | apply below_drew1 | refine below_set ?_ GE124.out | refine below_set ?_ GE125.out | refine below_set ?_ GE132.out) | exact HB.out)⟩
  · rw [if_neg c5] at H
    have c5b0 : decide (0 ≤ a1) = false := decide_eq_false c5
    clear c5
    simp only [Option.some.injEq, Prod.mk.injEq] at H
    obtain ⟨rfl, rfl⟩ := H
    go_enter Try.func22, Try.ntmps22
    try go_wp2_with (first | ((with_reducible refine gate_dst (N := 2) rfl ?_); (try (refine gate_guard (by rfl) ?_; dsimp only)); refine box_event ?hg (N := 2) ?hd (cs := #[.slice A0_0 l0_0.length c0_0, .slice A0_1 l0_1.length c0_1]) (t := 24) ?hr ?_; (case hd => rfl); (case hg => rfl); (case hr => first | (go_simp; done) | (go_simp; rfl)); intro gb124 hg w54 hbox hb; have n0_ := Aside0.mk (below_step (by exact pB HB.out) hb); have n1_ := Aside0.mk (hbox); have n2_ := Aside0.mk ((by rw [hg]; exact (below_size (by exact pB HB.out)) : w.heap.size ≤ gb124)); have n3_ := Aside0.mk ((by rw [hg]; exact (below_size (by exact pB HB.out)) : w.heap.size ≤ gb124)); clear HB; have HB := n0_; have BK124 := n1_; have GW124 := n2_; have GE124 := n3_; clear n0_ n1_ n2_ n3_; clear hb hbox hg) | ((with_reducible refine gate_dst (N := 4) rfl ?_); (try (refine gate_guard (by rfl) ?_; dsimp only)); refine box_event ?hg (N := 4) ?hd (cs := #[.slice none 0 0, .slice none 0 0]) (t := 24) ?hr ?_; (case hd => rfl); (case hg => rfl); (case hr => first | (go_simp; done) | (go_simp; rfl)); intro gb125 hg w55 hbox hb; have n0_ := Aside0.mk (blk_below (g := gb124) (o := .cells #[.slice A0_0 l0_0.length c0_0, .slice A0_1 l0_1.length c0_1] 24 (0, 0)) (by exact pK BK124.out) hb); have n1_ := Aside0.mk (below_step (by exact pB HB.out) hb); have n2_ := Aside0.mk (hbox); have n3_ := Aside0.mk ((by rw [hg]; exact (below_size (by exact pB HB.out)) : w.heap.size ≤ gb125)); have n4_ := Aside0.mk ((by rw [hg]; exact (below_size (by exact pB HB.out)) : w.heap.size ≤ gb125)); have n5_ := Aside0.mk ((by rw [hg]; exact Nat.ne_of_lt (blk_lt (g := gb124) (o := .cells #[.slice A0_0 l0_0.length c0_0, .slice A0_1 l0_1.length c0_1] 24 (0, 0)) (by exact pK BK124.out)) : gb124 ≠ gb125)); have n6_ := Aside0.mk ((by rw [hg]; exact Nat.ne_of_gt (blk_lt (g := gb124) (o := .cells #[.slice A0_0 l0_0.length c0_0, .slice A0_1 l0_1.length c0_1] 24 (0, 0)) (by exact pK BK124.out)) : gb125 ≠ gb124)); clear BK124; clear HB; have BK124 := n0_; have HB := n1_; have BK125 := n2_; have GW125 := n3_; have GE125 := n4_; have NB124_125 := n5_; have NB125_124 := n6_; clear n0_ n1_ n2_ n3_ n4_ n5_ n6_; clear hb hbox hg))
    have n0_ := Aside0.mk (blk_drew BK124.out)
    have n1_ := Aside0.mk (blk_drew BK125.out)
    have n2_ := Aside0.mk (below_drew1 HB.out)
    clear BK124
    clear BK125
    clear HB
    have BK124 := n0_
    have BK125 := n1_
    have HB := n2_
    clear n0_ n1_ n2_
    refine start_ (n := 9) (S := fun w' => w'.cell? ⟨gb124, 0, none⟩ = some (.slice A0_0 l0_0.length c0_0) ∧ w'.cell? ⟨gb124, 1, none⟩ = some (.slice A0_1 l0_1.length c0_1)) (ds := []) #[false, false, false, false, false, false, false, false, false] (by kernel_rfl) rfl rfl ⟨(blk_cell BK124.out 0).trans rfl, (blk_cell BK124.out 1).trans rfl⟩ (fun hHeld => ?_); refine with_tabW disk_Flip.tab1 disk_Flip.bits1 (fun HT_ HW_ => ?_)
    generalize w55.drew = w56 at BK124 BK125 HB hHeld ⊢
    refine pure_ (i := 0) (N := some 6) (v := ?_) (a' := ?_) #[true, false, false, false, false, false, false, false, false] rfl rfl (any_of HT_.out (by kernel_rfl)) (fun _ _ _ h => h) (Or.inl ⟨by rfl, ?_⟩) ?_ ?_
    rotate_left
    · intro w'
      go_simp
      with_reducible rfl
    rotate_left
    · simp only [Act.put, List.setIfInBounds_toArray, List.set_cons_zero, List.set_cons_succ, i64_w, i32_w]
      rfl
    refine pure_ (i := 3) (N := some 9) (v := ?_) (a' := ?_) #[true, false, false, true, false, false, false, false, false] rfl rfl (any_of HT_.out (by kernel_rfl)) (fun _ _ _ h => h) (Or.inl ⟨by rfl, ?_⟩) ?_ ?_
    rotate_left
    · intro w'
      go_simp
      with_reducible rfl
    rotate_left
    · simp only [Act.put, List.setIfInBounds_toArray, List.set_cons_zero, List.set_cons_succ, i64_w, i32_w]
      rfl
    refine take_ (i := 1) (N := some 7) (v := ?_) (a' := ?_) #[true, true, false, true, false, false, false, false, false] rfl rfl (take_ofW HT_.out HW_.out (by kernel_rfl)) (fun _ _ _ h => h) (Or.inl ⟨by rfl, ?_⟩) hHeld ?_ ?_
    rotate_left
    · rintro w' ⟨s0, s1⟩
      go_simp
      with_reducible rfl
    rotate_left
    · simp only [Act.put, List.setIfInBounds_toArray, List.set_cons_zero, List.set_cons_succ, i64_w, i32_w]
      rfl
    refine take_ (i := 4) (N := some 10) (v := ?_) (a' := ?_) #[true, true, false, true, true, false, false, false, false] rfl rfl (take_ofW HT_.out HW_.out (by kernel_rfl)) (fun _ _ _ h => h) (Or.inl ⟨by rfl, ?_⟩) hHeld ?_ ?_
    rotate_left
    · rintro w' ⟨s0, s1⟩
      go_simp
      with_reducible rfl
    rotate_left
    · simp only [Act.put, List.setIfInBounds_toArray, List.set_cons_zero, List.set_cons_succ, i64_w, i32_w]
      rfl
    refine join_ (σ := Value × Value × Nat) 1 #[true, true, true, true, true, true, true, true, false] (fun s_ => [(8, s_.1), (11, s_.2.1), (5, .pointer (some ⟨s_.2.2, 0, none⟩)), (12, .agg #[s_.1, s_.2.1])]) (fun s_ w' => (w'.cell? ⟨gb124, 0, none⟩ = some (.slice A0_0 l0_0.length c0_0) ∧ w'.cell? ⟨gb124, 1, none⟩ = some (.slice A0_1 l0_1.length c0_1)) ∧ (Kd.R (Kd.int .u8) 5 w' w.heap.size (fun k_ => some k_ ≠ (s_.2.1 : Value).ownBlock) s_.1 t126) ∧ (Kd.R (Kd.int .u8) 5 w' w.heap.size (fun k_ => some k_ ≠ (s_.1 : Value).ownBlock) s_.2.1 t129) ∧ (w'.heap[gb124]? = some (.cells #[.slice A0_0 l0_0.length c0_0, .slice A0_1 l0_1.length c0_1] 24 (0, 0))) ∧ (w'.heap[gb125]? = some (.cells #[.slice none 0 0, .slice none 0 0] 24 (0, 0))) ∧ (w'.heap[s_.2.2]? = some (.cells #[.slice none 0 0, .slice none 0 0] 24 (0, 0))) ∧ (w.heap.size ≤ s_.2.2) ∧ (w.heap.size ≤ s_.2.2) ∧ (gb124 ≠ s_.2.2) ∧ (s_.2.2 ≠ gb124) ∧ (gb125 ≠ s_.2.2) ∧ (s_.2.2 ≠ gb125) ∧ (Below w.heap.size w w')) ?_ ?_
    rotate_left
    · intro hCont
      refine two_ (i := 2) (j := 7) (Ni := some 8) (Nj := some 5) #[true, true, true, true, true, false, false, false, false] #[true, true, false, true, true, false, false, true, false] rfl rfl rfl rfl (two_of HT_.out (by kernel_rfl)) (by decide) (by decide) (fun K hK => ?_) (fun K hK => ?_)
      · skip
        refine goes_ Try.func41 (by kernel_rfl) rfl #[.slice A0_0 l0_0.length c0_0, .slice none 0 0] (by rfl) rfl rfl (by (try simp only [List.map_toArray, List.map_cons, List.map_nil]); first | done | rfl | (simp only [List.length_drop, List.length_take]; rfl)) ?_
        refine (disk_joined.calls _ _ l0_0 _ _ ([] : List Int) t126 _ ?side1 ?side2 ?side3 ?side4 A3.out).mono ?_
        (case side1 => exact pC (Kd.C_below HR0_0.out HB.out))
        (case side2 => exact HC0_0.out)
        (case side3 => exact Kd.C_nil _ _)
        (case side4 => exact Nat.le_refl _)
        rintro e w57 ⟨v127, rfl, ho0, hb⟩
        refine ⟨_, rfl, ?_⟩
        have n0_ := Aside0.mk (Kd.R_lower ho0 (below_size (by exact pB HB.out)))
        have n1_ := Aside0.mk (blk_below (g := gb124) (o := .cells #[.slice A0_0 l0_0.length c0_0, .slice A0_1 l0_1.length c0_1] 24 (0, 0)) (by exact pK BK124.out) hb)
        have n2_ := Aside0.mk (blk_below (g := gb125) (o := .cells #[.slice none 0 0, .slice none 0 0] 24 (0, 0)) (by exact pK BK125.out) hb)
        have n3_ := Aside0.mk (below_step (by exact pB HB.out) hb)
        clear BK124
        clear BK125
        clear HB
        have HO128 := n0_
        have BK124 := n1_
        have BK125 := n2_
        have HB := n3_
        clear n0_ n1_ n2_ n3_
        (try clear hb)
        (try clear hb2)
        (try clear hk)
        (try clear hi)
        (try clear ho0)
        refine hK.out _ _ ⟨(blk_cell BK124.out 0).trans rfl, (blk_cell BK124.out 1).trans rfl⟩ (fun hHeld => ?_)
        clear hK K
        refine norm_ (a' := ?_) ?_ ?_
        rotate_left
        · show Act.put _ (some 8) _ = _
          simp only [Act.put, List.setIfInBounds_toArray, List.set_cons_zero, List.set_cons_succ, i64_w, i32_w]
          rfl
        refine two_ (i := 5) (j := 7) (Ni := some 11) (Nj := some 5) #[true, true, true, true, true, true, false, false, false] #[true, true, true, true, true, false, false, true, false] rfl rfl rfl rfl (two_of HT_.out (by kernel_rfl)) (by decide) (by decide) (fun K hK => ?_) (fun K hK => ?_)
        · skip
          refine goes_ Try.func41 (by kernel_rfl) rfl #[.slice A0_1 l0_1.length c0_1, .slice none 0 0] (by rfl) rfl rfl (by (try simp only [List.map_toArray, List.map_cons, List.map_nil]); first | done | rfl | (simp only [List.length_drop, List.length_take]; rfl)) ?_
          refine (disk_joined.calls _ _ l0_1 _ _ ([] : List Int) t129 _ ?side1 ?side2 ?side3 ?side4 A4.out).mono ?_
          (case side1 => exact pC (Kd.C_below HR0_1.out HB.out))
          (case side2 => exact HC0_1.out)
          (case side3 => exact Kd.C_nil _ _)
          (case side4 => exact Nat.le_refl _)
          rintro e w58 ⟨v130, rfl, ho0, hb⟩
          refine ⟨_, rfl, ?_⟩
          have n0_ := Aside0.mk (Kd.R_elder' (by exact pR HO128.out) (Kd.R_base ho0) hb)
          have n1_ := Aside0.mk (Kd.R_lower (Kd.R_new' ho0 (Kd.R_lt (by exact pR HO128.out))) (below_size (by exact pB HB.out)))
          have n2_ := Aside0.mk (blk_below (g := gb124) (o := .cells #[.slice A0_0 l0_0.length c0_0, .slice A0_1 l0_1.length c0_1] 24 (0, 0)) (by exact pK BK124.out) hb)
          have n3_ := Aside0.mk (blk_below (g := gb125) (o := .cells #[.slice none 0 0, .slice none 0 0] 24 (0, 0)) (by exact pK BK125.out) hb)
          have n4_ := Aside0.mk (below_step (by exact pB HB.out) hb)
          clear HO128
          clear BK124
          clear BK125
          clear HB
          have HO128 := n0_
          have HO131 := n1_
          have BK124 := n2_
          have BK125 := n3_
          have HB := n4_
          clear n0_ n1_ n2_ n3_ n4_
          (try clear hb)
          (try clear hb2)
          (try clear hk)
          (try clear hi)
          (try clear ho0)
          obtain ⟨Ao59, co59, eo59⟩ := Kd.R_slice HO131.out
          (first | subst eo59 | (injection eo59 with f1_ f2_ f3_; have f4_ := f1_.symm; have f5_ := f3_.symm; clear f1_ f2_ f3_; subst f4_; subst f5_))
          obtain ⟨Ao60, co60, eo60⟩ := Kd.R_slice HO128.out
          (first | subst eo60 | (injection eo60 with f1_ f2_ f3_; have f4_ := f1_.symm; have f5_ := f3_.symm; clear f1_ f2_ f3_; subst f4_; subst f5_))
          refine hK.out _ _ ⟨(blk_cell BK124.out 0).trans rfl, (blk_cell BK124.out 1).trans rfl⟩ (fun hHeld => ?_)
          clear hK K
          refine norm_ (a' := ?_) ?_ ?_
          rotate_left
          · show Act.put _ (some 11) _ = _
            simp only [Act.put, List.setIfInBounds_toArray, List.set_cons_zero, List.set_cons_succ, i64_w, i32_w]
            rfl
          refine pure_ (i := 6) (N := some 12) (v := ?_) (a' := ?_) #[true, true, true, true, true, true, true, false, false] rfl rfl (any_of HT_.out (by kernel_rfl)) (fun _ _ _ h => h) (Or.inl ⟨by rfl, ?_⟩) ?_ ?_
          rotate_left
          · intro w'
            go_simp
            with_reducible rfl
          rotate_left
          · simp only [Act.put, List.setIfInBounds_toArray, List.set_cons_zero, List.set_cons_succ, i64_w, i32_w]
            rfl
          refine one_ (i := 7) (N := some 5) #[true, true, true, true, true, true, true, true, false] rfl rfl (one_of HT_.out (by kernel_rfl)) (by decide) (fun K hK => ?_)
          refine box_step ?hg (N := 5) ?hd (cs := #[.slice none 0 0, .slice none 0 0]) (t := 24) ?hr ?_; (case hd => rfl); (case hg => rfl); (case hr => first | (go_simp; done) | (go_simp; rfl))
          intro gb132 hg w61 hbox hb
          have n0_ := Aside0.mk (Kd.R_below (by exact pR HO128.out) hb)
          have n1_ := Aside0.mk (Kd.R_below (by exact pR HO131.out) hb)
          have n2_ := Aside0.mk (blk_below (g := gb124) (o := .cells #[.slice A0_0 l0_0.length c0_0, .slice A0_1 l0_1.length c0_1] 24 (0, 0)) (by exact pK BK124.out) hb)
          have n3_ := Aside0.mk (blk_below (g := gb125) (o := .cells #[.slice none 0 0, .slice none 0 0] 24 (0, 0)) (by exact pK BK125.out) hb)
          have n4_ := Aside0.mk (below_step (by exact pB HB.out) hb)
          have n5_ := Aside0.mk (hbox)
          have n6_ := Aside0.mk ((by rw [hg]; exact (below_size (by exact pB HB.out)) : w.heap.size ≤ gb132))
          have n7_ := Aside0.mk ((by rw [hg]; exact (below_size (by exact pB HB.out)) : w.heap.size ≤ gb132))
          have n8_ := Aside0.mk ((by rw [hg]; exact Nat.ne_of_lt (blk_lt (g := gb124) (o := .cells #[.slice A0_0 l0_0.length c0_0, .slice A0_1 l0_1.length c0_1] 24 (0, 0)) (by exact pK BK124.out)) : gb124 ≠ gb132))
          have n9_ := Aside0.mk ((by rw [hg]; exact Nat.ne_of_gt (blk_lt (g := gb124) (o := .cells #[.slice A0_0 l0_0.length c0_0, .slice A0_1 l0_1.length c0_1] 24 (0, 0)) (by exact pK BK124.out)) : gb132 ≠ gb124))
          have n10_ := Aside0.mk ((by rw [hg]; exact Nat.ne_of_lt (blk_lt (g := gb125) (o := .cells #[.slice none 0 0, .slice none 0 0] 24 (0, 0)) (by exact pK BK125.out)) : gb125 ≠ gb132))
          have n11_ := Aside0.mk ((by rw [hg]; exact Nat.ne_of_gt (blk_lt (g := gb125) (o := .cells #[.slice none 0 0, .slice none 0 0] 24 (0, 0)) (by exact pK BK125.out)) : gb132 ≠ gb125))
          clear HO128
          clear HO131
          clear BK124
          clear BK125
          clear HB
          have HO128 := n0_
          have HO131 := n1_
          have BK124 := n2_
          have BK125 := n3_
          have HB := n4_
          have BK132 := n5_
          have GW132 := n6_
          have GE132 := n7_
          have NB124_132 := n8_
          have NB132_124 := n9_
          have NB125_132 := n10_
          have NB132_125 := n11_
          clear n0_ n1_ n2_ n3_ n4_ n5_ n6_ n7_ n8_ n9_ n10_ n11_
          clear hb hbox hg
          refine hK.out _ _ ⟨(blk_cell BK124.out 0).trans rfl, (blk_cell BK124.out 1).trans rfl⟩ (fun hHeld => ?_)
          clear hK K
          refine norm_ (a' := ?_) ?_ ?_
          rotate_left
          · show Act.put _ (some 5) _ = _
            simp only [Act.put, List.setIfInBounds_toArray, List.set_cons_zero, List.set_cons_succ, i64_w, i32_w]
            rfl
          exact norm_ (by simp only [putAll, Act.put, List.setIfInBounds_toArray, List.set_cons_zero, List.set_cons_succ]) (hCont (.slice Ao60 t126.length co60, .slice Ao59 t129.length co59, gb132) _ ⟨hHeld, (by exact pR (Kd.R_mono HO128.out (fun _ hk => hk.2))), (by exact pR (Kd.R_mono HO131.out (fun _ hk => hk.2))), (by exact pK BK124.out), (by exact pK BK125.out), (by exact pK BK132.out), GW132.out, GE132.out, NB124_132.out, NB132_124.out, NB125_132.out, NB132_125.out, (by exact pB HB.out)⟩)
        · skip
          refine box_step ?hg (N := 5) ?hd (cs := #[.slice none 0 0, .slice none 0 0]) (t := 24) ?hr ?_; (case hd => rfl); (case hg => rfl); (case hr => first | (go_simp; done) | (go_simp; rfl))
          intro gb132 hg w58 hbox hb
          have n0_ := Aside0.mk (Kd.R_below (by exact pR HO128.out) hb)
          have n1_ := Aside0.mk (blk_below (g := gb124) (o := .cells #[.slice A0_0 l0_0.length c0_0, .slice A0_1 l0_1.length c0_1] 24 (0, 0)) (by exact pK BK124.out) hb)
          have n2_ := Aside0.mk (blk_below (g := gb125) (o := .cells #[.slice none 0 0, .slice none 0 0] 24 (0, 0)) (by exact pK BK125.out) hb)
          have n3_ := Aside0.mk (below_step (by exact pB HB.out) hb)
          have n4_ := Aside0.mk (hbox)
          have n5_ := Aside0.mk ((by rw [hg]; exact (below_size (by exact pB HB.out)) : w.heap.size ≤ gb132))
          have n6_ := Aside0.mk ((by rw [hg]; exact (below_size (by exact pB HB.out)) : w.heap.size ≤ gb132))
          have n7_ := Aside0.mk ((by rw [hg]; exact Nat.ne_of_lt (blk_lt (g := gb124) (o := .cells #[.slice A0_0 l0_0.length c0_0, .slice A0_1 l0_1.length c0_1] 24 (0, 0)) (by exact pK BK124.out)) : gb124 ≠ gb132))
          have n8_ := Aside0.mk ((by rw [hg]; exact Nat.ne_of_gt (blk_lt (g := gb124) (o := .cells #[.slice A0_0 l0_0.length c0_0, .slice A0_1 l0_1.length c0_1] 24 (0, 0)) (by exact pK BK124.out)) : gb132 ≠ gb124))
          have n9_ := Aside0.mk ((by rw [hg]; exact Nat.ne_of_lt (blk_lt (g := gb125) (o := .cells #[.slice none 0 0, .slice none 0 0] 24 (0, 0)) (by exact pK BK125.out)) : gb125 ≠ gb132))
          have n10_ := Aside0.mk ((by rw [hg]; exact Nat.ne_of_gt (blk_lt (g := gb125) (o := .cells #[.slice none 0 0, .slice none 0 0] 24 (0, 0)) (by exact pK BK125.out)) : gb132 ≠ gb125))
          clear HO128
          clear BK124
          clear BK125
          clear HB
          have HO128 := n0_
          have BK124 := n1_
          have BK125 := n2_
          have HB := n3_
          have BK132 := n4_
          have GW132 := n5_
          have GE132 := n6_
          have NB124_132 := n7_
          have NB132_124 := n8_
          have NB125_132 := n9_
          have NB132_125 := n10_
          clear n0_ n1_ n2_ n3_ n4_ n5_ n6_ n7_ n8_ n9_ n10_
          clear hb hbox hg
          refine hK.out _ _ ⟨(blk_cell BK124.out 0).trans rfl, (blk_cell BK124.out 1).trans rfl⟩ (fun hHeld => ?_)
          clear hK K
          refine norm_ (a' := ?_) ?_ ?_
          rotate_left
          · show Act.put _ (some 5) _ = _
            simp only [Act.put, List.setIfInBounds_toArray, List.set_cons_zero, List.set_cons_succ, i64_w, i32_w]
            rfl
          refine one_ (i := 5) (N := some 11) #[true, true, true, true, true, true, false, true, false] rfl rfl (one_of HT_.out (by kernel_rfl)) (by decide) (fun K hK => ?_)
          refine goes_ Try.func41 (by kernel_rfl) rfl #[.slice A0_1 l0_1.length c0_1, .slice none 0 0] (by rfl) rfl rfl (by (try simp only [List.map_toArray, List.map_cons, List.map_nil]); first | done | rfl | (simp only [List.length_drop, List.length_take]; rfl)) ?_
          refine (disk_joined.calls _ _ l0_1 _ _ ([] : List Int) t129 _ ?side1 ?side2 ?side3 ?side4 A4.out).mono ?_
          (case side1 => exact pC (Kd.C_below HR0_1.out HB.out))
          (case side2 => exact HC0_1.out)
          (case side3 => exact Kd.C_nil _ _)
          (case side4 => exact Nat.le_refl _)
          rintro e w59 ⟨v130, rfl, ho0, hb⟩
          refine ⟨_, rfl, ?_⟩
          have n0_ := Aside0.mk (Kd.R_elder' (by exact pR HO128.out) (Kd.R_base ho0) hb)
          have n1_ := Aside0.mk (Kd.R_lower (Kd.R_new' ho0 (Kd.R_lt (by exact pR HO128.out))) (below_size (by exact pB HB.out)))
          have n2_ := Aside0.mk (blk_below (g := gb124) (o := .cells #[.slice A0_0 l0_0.length c0_0, .slice A0_1 l0_1.length c0_1] 24 (0, 0)) (by exact pK BK124.out) hb)
          have n3_ := Aside0.mk (blk_below (g := gb125) (o := .cells #[.slice none 0 0, .slice none 0 0] 24 (0, 0)) (by exact pK BK125.out) hb)
          have n4_ := Aside0.mk (blk_below (g := gb132) (o := .cells #[.slice none 0 0, .slice none 0 0] 24 (0, 0)) (by exact pK BK132.out) hb)
          have n5_ := Aside0.mk (below_step (by exact pB HB.out) hb)
          clear HO128
          clear BK124
          clear BK125
          clear BK132
          clear HB
          have HO128 := n0_
          have HO131 := n1_
          have BK124 := n2_
          have BK125 := n3_
          have BK132 := n4_
          have HB := n5_
          clear n0_ n1_ n2_ n3_ n4_ n5_
          (try clear hb)
          (try clear hb2)
          (try clear hk)
          (try clear hi)
          (try clear ho0)
          obtain ⟨Ao60, co60, eo60⟩ := Kd.R_slice HO131.out
          (first | subst eo60 | (injection eo60 with f1_ f2_ f3_; have f4_ := f1_.symm; have f5_ := f3_.symm; clear f1_ f2_ f3_; subst f4_; subst f5_))
          obtain ⟨Ao61, co61, eo61⟩ := Kd.R_slice HO128.out
          (first | subst eo61 | (injection eo61 with f1_ f2_ f3_; have f4_ := f1_.symm; have f5_ := f3_.symm; clear f1_ f2_ f3_; subst f4_; subst f5_))
          refine hK.out _ _ ⟨(blk_cell BK124.out 0).trans rfl, (blk_cell BK124.out 1).trans rfl⟩ (fun hHeld => ?_)
          clear hK K
          refine norm_ (a' := ?_) ?_ ?_
          rotate_left
          · show Act.put _ (some 11) _ = _
            simp only [Act.put, List.setIfInBounds_toArray, List.set_cons_zero, List.set_cons_succ, i64_w, i32_w]
            rfl
          refine pure_ (i := 6) (N := some 12) (v := ?_) (a' := ?_) #[true, true, true, true, true, true, true, true, false] rfl rfl (any_of HT_.out (by kernel_rfl)) (fun _ _ _ h => h) (Or.inl ⟨by rfl, ?_⟩) ?_ ?_
          rotate_left
          · intro w'
            go_simp
            with_reducible rfl
          rotate_left
          · simp only [Act.put, List.setIfInBounds_toArray, List.set_cons_zero, List.set_cons_succ, i64_w, i32_w]
            rfl
          exact norm_ (by simp only [putAll, Act.put, List.setIfInBounds_toArray, List.set_cons_zero, List.set_cons_succ]) (hCont (.slice Ao61 t126.length co61, .slice Ao60 t129.length co60, gb132) _ ⟨hHeld, (by exact pR (Kd.R_mono HO128.out (fun _ hk => hk.2))), (by exact pR (Kd.R_mono HO131.out (fun _ hk => hk.2))), (by exact pK BK124.out), (by exact pK BK125.out), (by exact pK BK132.out), GW132.out, GE132.out, NB124_132.out, NB132_124.out, NB125_132.out, NB132_125.out, (by exact pB HB.out)⟩)
      · skip
        refine box_step ?hg (N := 5) ?hd (cs := #[.slice none 0 0, .slice none 0 0]) (t := 24) ?hr ?_; (case hd => rfl); (case hg => rfl); (case hr => first | (go_simp; done) | (go_simp; rfl))
        intro gb132 hg w57 hbox hb
        have n0_ := Aside0.mk (blk_below (g := gb124) (o := .cells #[.slice A0_0 l0_0.length c0_0, .slice A0_1 l0_1.length c0_1] 24 (0, 0)) (by exact pK BK124.out) hb)
        have n1_ := Aside0.mk (blk_below (g := gb125) (o := .cells #[.slice none 0 0, .slice none 0 0] 24 (0, 0)) (by exact pK BK125.out) hb)
        have n2_ := Aside0.mk (below_step (by exact pB HB.out) hb)
        have n3_ := Aside0.mk (hbox)
        have n4_ := Aside0.mk ((by rw [hg]; exact (below_size (by exact pB HB.out)) : w.heap.size ≤ gb132))
        have n5_ := Aside0.mk ((by rw [hg]; exact (below_size (by exact pB HB.out)) : w.heap.size ≤ gb132))
        have n6_ := Aside0.mk ((by rw [hg]; exact Nat.ne_of_lt (blk_lt (g := gb124) (o := .cells #[.slice A0_0 l0_0.length c0_0, .slice A0_1 l0_1.length c0_1] 24 (0, 0)) (by exact pK BK124.out)) : gb124 ≠ gb132))
        have n7_ := Aside0.mk ((by rw [hg]; exact Nat.ne_of_gt (blk_lt (g := gb124) (o := .cells #[.slice A0_0 l0_0.length c0_0, .slice A0_1 l0_1.length c0_1] 24 (0, 0)) (by exact pK BK124.out)) : gb132 ≠ gb124))
        have n8_ := Aside0.mk ((by rw [hg]; exact Nat.ne_of_lt (blk_lt (g := gb125) (o := .cells #[.slice none 0 0, .slice none 0 0] 24 (0, 0)) (by exact pK BK125.out)) : gb125 ≠ gb132))
        have n9_ := Aside0.mk ((by rw [hg]; exact Nat.ne_of_gt (blk_lt (g := gb125) (o := .cells #[.slice none 0 0, .slice none 0 0] 24 (0, 0)) (by exact pK BK125.out)) : gb132 ≠ gb125))
        clear BK124
        clear BK125
        clear HB
        have BK124 := n0_
        have BK125 := n1_
        have HB := n2_
        have BK132 := n3_
        have GW132 := n4_
        have GE132 := n5_
        have NB124_132 := n6_
        have NB132_124 := n7_
        have NB125_132 := n8_
        have NB132_125 := n9_
        clear n0_ n1_ n2_ n3_ n4_ n5_ n6_ n7_ n8_ n9_
        clear hb hbox hg
        refine hK.out _ _ ⟨(blk_cell BK124.out 0).trans rfl, (blk_cell BK124.out 1).trans rfl⟩ (fun hHeld => ?_)
        clear hK K
        refine norm_ (a' := ?_) ?_ ?_
        rotate_left
        · show Act.put _ (some 5) _ = _
          simp only [Act.put, List.setIfInBounds_toArray, List.set_cons_zero, List.set_cons_succ, i64_w, i32_w]
          rfl
        refine one_ (i := 2) (N := some 8) #[true, true, true, true, true, false, false, true, false] rfl rfl (one_of HT_.out (by kernel_rfl)) (by decide) (fun K hK => ?_)
        refine goes_ Try.func41 (by kernel_rfl) rfl #[.slice A0_0 l0_0.length c0_0, .slice none 0 0] (by rfl) rfl rfl (by (try simp only [List.map_toArray, List.map_cons, List.map_nil]); first | done | rfl | (simp only [List.length_drop, List.length_take]; rfl)) ?_
        refine (disk_joined.calls _ _ l0_0 _ _ ([] : List Int) t126 _ ?side1 ?side2 ?side3 ?side4 A3.out).mono ?_
        (case side1 => exact pC (Kd.C_below HR0_0.out HB.out))
        (case side2 => exact HC0_0.out)
        (case side3 => exact Kd.C_nil _ _)
        (case side4 => exact Nat.le_refl _)
        rintro e w58 ⟨v127, rfl, ho0, hb⟩
        refine ⟨_, rfl, ?_⟩
        have n0_ := Aside0.mk (Kd.R_lower ho0 (below_size (by exact pB HB.out)))
        have n1_ := Aside0.mk (blk_below (g := gb124) (o := .cells #[.slice A0_0 l0_0.length c0_0, .slice A0_1 l0_1.length c0_1] 24 (0, 0)) (by exact pK BK124.out) hb)
        have n2_ := Aside0.mk (blk_below (g := gb125) (o := .cells #[.slice none 0 0, .slice none 0 0] 24 (0, 0)) (by exact pK BK125.out) hb)
        have n3_ := Aside0.mk (blk_below (g := gb132) (o := .cells #[.slice none 0 0, .slice none 0 0] 24 (0, 0)) (by exact pK BK132.out) hb)
        have n4_ := Aside0.mk (below_step (by exact pB HB.out) hb)
        clear BK124
        clear BK125
        clear BK132
        clear HB
        have HO128 := n0_
        have BK124 := n1_
        have BK125 := n2_
        have BK132 := n3_
        have HB := n4_
        clear n0_ n1_ n2_ n3_ n4_
        (try clear hb)
        (try clear hb2)
        (try clear hk)
        (try clear hi)
        (try clear ho0)
        refine hK.out _ _ ⟨(blk_cell BK124.out 0).trans rfl, (blk_cell BK124.out 1).trans rfl⟩ (fun hHeld => ?_)
        clear hK K
        refine norm_ (a' := ?_) ?_ ?_
        rotate_left
        · show Act.put _ (some 8) _ = _
          simp only [Act.put, List.setIfInBounds_toArray, List.set_cons_zero, List.set_cons_succ, i64_w, i32_w]
          rfl
        refine one_ (i := 5) (N := some 11) #[true, true, true, true, true, true, false, true, false] rfl rfl (one_of HT_.out (by kernel_rfl)) (by decide) (fun K hK => ?_)
        refine goes_ Try.func41 (by kernel_rfl) rfl #[.slice A0_1 l0_1.length c0_1, .slice none 0 0] (by rfl) rfl rfl (by (try simp only [List.map_toArray, List.map_cons, List.map_nil]); first | done | rfl | (simp only [List.length_drop, List.length_take]; rfl)) ?_
        refine (disk_joined.calls _ _ l0_1 _ _ ([] : List Int) t129 _ ?side1 ?side2 ?side3 ?side4 A4.out).mono ?_
        (case side1 => exact pC (Kd.C_below HR0_1.out HB.out))
        (case side2 => exact HC0_1.out)
        (case side3 => exact Kd.C_nil _ _)
        (case side4 => exact Nat.le_refl _)
        rintro e w59 ⟨v130, rfl, ho0, hb⟩
        refine ⟨_, rfl, ?_⟩
        have n0_ := Aside0.mk (Kd.R_elder' (by exact pR HO128.out) (Kd.R_base ho0) hb)
        have n1_ := Aside0.mk (Kd.R_lower (Kd.R_new' ho0 (Kd.R_lt (by exact pR HO128.out))) (below_size (by exact pB HB.out)))
        have n2_ := Aside0.mk (blk_below (g := gb124) (o := .cells #[.slice A0_0 l0_0.length c0_0, .slice A0_1 l0_1.length c0_1] 24 (0, 0)) (by exact pK BK124.out) hb)
        have n3_ := Aside0.mk (blk_below (g := gb125) (o := .cells #[.slice none 0 0, .slice none 0 0] 24 (0, 0)) (by exact pK BK125.out) hb)
        have n4_ := Aside0.mk (blk_below (g := gb132) (o := .cells #[.slice none 0 0, .slice none 0 0] 24 (0, 0)) (by exact pK BK132.out) hb)
        have n5_ := Aside0.mk (below_step (by exact pB HB.out) hb)
        clear HO128
        clear BK124
        clear BK125
        clear BK132
        clear HB
        have HO128 := n0_
        have HO131 := n1_
        have BK124 := n2_
        have BK125 := n3_
        have BK132 := n4_
        have HB := n5_
        clear n0_ n1_ n2_ n3_ n4_ n5_
        (try clear hb)
        (try clear hb2)
        (try clear hk)
        (try clear hi)
        (try clear ho0)
        obtain ⟨Ao60, co60, eo60⟩ := Kd.R_slice HO131.out
        (first | subst eo60 | (injection eo60 with f1_ f2_ f3_; have f4_ := f1_.symm; have f5_ := f3_.symm; clear f1_ f2_ f3_; subst f4_; subst f5_))
        obtain ⟨Ao61, co61, eo61⟩ := Kd.R_slice HO128.out
        (first | subst eo61 | (injection eo61 with f1_ f2_ f3_; have f4_ := f1_.symm; have f5_ := f3_.symm; clear f1_ f2_ f3_; subst f4_; subst f5_))
        refine hK.out _ _ ⟨(blk_cell BK124.out 0).trans rfl, (blk_cell BK124.out 1).trans rfl⟩ (fun hHeld => ?_)
        clear hK K
        refine norm_ (a' := ?_) ?_ ?_
        rotate_left
        · show Act.put _ (some 11) _ = _
          simp only [Act.put, List.setIfInBounds_toArray, List.set_cons_zero, List.set_cons_succ, i64_w, i32_w]
          rfl
        refine pure_ (i := 6) (N := some 12) (v := ?_) (a' := ?_) #[true, true, true, true, true, true, true, true, false] rfl rfl (any_of HT_.out (by kernel_rfl)) (fun _ _ _ h => h) (Or.inl ⟨by rfl, ?_⟩) ?_ ?_
        rotate_left
        · intro w'
          go_simp
          with_reducible rfl
        rotate_left
        · simp only [Act.put, List.setIfInBounds_toArray, List.set_cons_zero, List.set_cons_succ, i64_w, i32_w]
          rfl
        exact norm_ (by simp only [putAll, Act.put, List.setIfInBounds_toArray, List.set_cons_zero, List.set_cons_succ]) (hCont (.slice Ao61 t126.length co61, .slice Ao60 t129.length co60, gb132) _ ⟨hHeld, (by exact pR (Kd.R_mono HO128.out (fun _ hk => hk.2))), (by exact pR (Kd.R_mono HO131.out (fun _ hk => hk.2))), (by exact pK BK124.out), (by exact pK BK125.out), (by exact pK BK132.out), GW132.out, GE132.out, NB124_132.out, NB132_124.out, NB125_132.out, NB132_125.out, (by exact pB HB.out)⟩)
    rintro ⟨v127, v130, gb132⟩ w62 ⟨hS_, h0_, h1_, h2_, h3_, h4_, h5_, h6_, h7_, h8_, h9_, h10_, h11_⟩
    have n0_ : Aside0 (Kd.R (Kd.int .u8) 5 w62 w.heap.size (fun k_ => some k_ ≠ (v130 : Value).ownBlock) v127 t126) := ⟨h0_⟩
    have n1_ : Aside0 (Kd.R (Kd.int .u8) 5 w62 w.heap.size (fun k_ => some k_ ≠ (v127 : Value).ownBlock) v130 t129) := ⟨h1_⟩
    have n2_ : Aside0 (w62.heap[gb124]? = some (.cells #[.slice A0_0 l0_0.length c0_0, .slice A0_1 l0_1.length c0_1] 24 (0, 0))) := ⟨h2_⟩
    have n3_ : Aside0 (w62.heap[gb125]? = some (.cells #[.slice none 0 0, .slice none 0 0] 24 (0, 0))) := ⟨h3_⟩
    have n4_ : Aside0 (w62.heap[gb132]? = some (.cells #[.slice none 0 0, .slice none 0 0] 24 (0, 0))) := ⟨h4_⟩
    have n5_ : Aside0 (w.heap.size ≤ gb132) := ⟨h5_⟩
    have n6_ : Aside0 (w.heap.size ≤ gb132) := ⟨h6_⟩
    have n7_ : Aside0 (gb124 ≠ gb132) := ⟨h7_⟩
    have n8_ : Aside0 (gb132 ≠ gb124) := ⟨h8_⟩
    have n9_ : Aside0 (gb125 ≠ gb132) := ⟨h9_⟩
    have n10_ : Aside0 (gb132 ≠ gb125) := ⟨h10_⟩
    have n11_ : Aside0 (Below w.heap.size w w62) := ⟨h11_⟩
    clear BK124
    clear BK125
    clear HB
    clear h0_ h1_ h2_ h3_ h4_ h5_ h6_ h7_ h8_ h9_ h10_ h11_
    have HO128 := n0_
    have HO131 := n1_
    have BK124 := n2_
    have BK125 := n3_
    have BK132 := n4_
    have GW132 := n5_
    have GE132 := n6_
    have NB124_132 := n7_
    have NB132_124 := n8_
    have NB125_132 := n9_
    have NB132_125 := n10_
    have HB := n11_
    clear n0_ n1_ n2_ n3_ n4_ n5_ n6_ n7_ n8_ n9_ n10_ n11_
    have hHeld : w62.cell? ⟨gb124, 0, none⟩ = some (.slice A0_0 l0_0.length c0_0) ∧ w62.cell? ⟨gb124, 1, none⟩ = some (.slice A0_1 l0_1.length c0_1) := hS_
    obtain ⟨Ao63, co63, eo63⟩ := Kd.R_slice HO131.out
    (first | subst eo63 | (injection eo63 with f1_ f2_ f3_; have f4_ := f1_.symm; have f5_ := f3_.symm; clear f1_ f2_ f3_; subst f4_; subst f5_))
    obtain ⟨Ao64, co64, eo64⟩ := Kd.R_slice HO128.out
    (first | subst eo64 | (injection eo64 with f1_ f2_ f3_; have f4_ := f1_.symm; have f5_ := f3_.symm; clear f1_ f2_ f3_; subst f4_; subst f5_))
    refine norm_ (a' := ?_) ?_ ?_
    rotate_left
    · simp only [putAll, Act.put, List.setIfInBounds_toArray, List.set_cons_zero, List.set_cons_succ]
      rfl
    refine one_ (i := 8) (N := none) #[true, true, true, true, true, true, true, true, true] rfl rfl (one_of HT_.out (by kernel_rfl)) (by decide) (fun K hK => ?_)
    have hs65 : w62.cell? ⟨gb132, 0, none⟩ = some (.slice none 0 0) := (blk_cell BK132.out 0).trans rfl
    have hfs65 := blk_frozen BK132.out 0
    have hns65_0 := NB124_132.out
    have hns65_1 := NB125_132.out
    have hms65_0 := NB132_124.out
    have hms65_1 := NB132_125.out
    have hs66 : w62.cell? ⟨gb132, 1, none⟩ = some (.slice none 0 0) := (blk_cell BK132.out 1).trans rfl
    have hfs66 := blk_frozen BK132.out 1
    have hns66_0 := NB124_132.out
    have hns66_1 := NB125_132.out
    have hms66_0 := NB132_124.out
    have hms66_1 := NB132_125.out
    refine skip_ (w1 := ?_) (by rfl) rfl ?_ ?_
    rotate_left
    · go_simp
      rfl
    refine hK.out _ _ ⟨((cell_far (p := ⟨gb132, _, none⟩) NB124_132.out _).trans (((cell_far (p := ⟨gb132, _, none⟩) NB124_132.out _).trans (hHeld.1)))), ((cell_far (p := ⟨gb132, _, none⟩) NB124_132.out _).trans (((cell_far (p := ⟨gb132, _, none⟩) NB124_132.out _).trans (hHeld.2))))⟩ (fun hHeld => ?_)
    clear hK K
    refine done_ (done_of HT_.out (by kernel_rfl)) ?_
    have hnb67 := NB132_124.out
    have hnc67 := NB124_132.out
    have hnb68 := NB132_125.out
    have hnc68 := NB125_132.out
    have hcz69_0 : w62.cell? ⟨gb132, 0, none⟩ = some (.slice none 0 0) := (blk_cell BK132.out 0).trans rfl
    have hcz69_1 : w62.cell? ⟨gb132, 1, none⟩ = some (.slice none 0 0) := (blk_cell BK132.out 1).trans rfl
    have hfz69_0 := blk_frozen BK132.out 0
    have hfz69_1 := blk_frozen BK132.out 1
    have hnb70 := NB125_124.out
    have hnc70 := NB124_125.out
    have hcz71_0 : w62.cell? ⟨gb125, 0, none⟩ = some (.slice none 0 0) := (blk_cell BK125.out 0).trans rfl
    have hcz71_1 : w62.cell? ⟨gb125, 1, none⟩ = some (.slice none 0 0) := (blk_cell BK125.out 1).trans rfl
    have hfz71_0 := blk_frozen BK125.out 0
    have hfz71_1 := blk_frozen BK125.out 1
    try go_wp2
    refine bodyPost_ret (results_cell_row rfl _ _ gb125 24 #[.slice Ao64 t126.length co64, .slice Ao63 t129.length co63] (0, 0) _ rfl (by (with_reducible repeat (first | refine blk_drewN ?_ _ | refine blk_drew ?_ | refine blk_alloc ?_ _)); refine blk_put (cs := #[.slice Ao64 t126.length co64, .slice none 0 0]) ?_ 1 _ rfl; (with_reducible repeat (first | refine blk_drewN ?_ _ | refine blk_drew ?_ | refine blk_alloc ?_ _)); refine blk_put (cs := #[.slice none 0 0, .slice none 0 0]) ?_ 0 _ rfl; (with_reducible repeat (first | refine blk_drewN ?_ _ | refine blk_drew ?_ | refine blk_alloc ?_ _)); refine blk_far ?_ NB125_132.out _; (with_reducible repeat (first | refine blk_drewN ?_ _ | refine blk_drew ?_ | refine blk_alloc ?_ _)); refine blk_far ?_ NB125_132.out _; (with_reducible repeat (first | refine blk_drewN ?_ _ | refine blk_drew ?_ | refine blk_alloc ?_ _)); exact BK125.out) Try.underlying24 rfl (by kernel_rfl)) rfl ?_
    exact ⟨_, _, by first | rfl | (simp [errW_none, errW_some] <;> rfl) | (simp [*, errW_none, errW_some] <;> rfl), by (with_reducible repeat (first | apply Kd.R_alloc | apply Kd.R_drewN | apply Kd.R_drew)); exact Kd.R_mono (Kd.R_far (p := ⟨gb125, 1, none⟩) (Kd.R_far (p := ⟨gb125, 0, none⟩) (Kd.R_far (p := ⟨gb132, 1, none⟩) (Kd.R_far (p := ⟨gb132, 0, none⟩) (Kd.R_types (Kd.R_types HO128.out BK132.out (by decide)) BK125.out (by decide)) (fun _ hk => hk.1.2) (.slice Ao64 t126.length co64)) (fun _ hk => hk.1.2) (.slice Ao63 t129.length co63)) (fun _ hk => hk.2) (.slice Ao64 t126.length co64)) (fun _ hk => hk.2) (.slice Ao63 t129.length co63)) (fun _ hk => hk.1.1), by (with_reducible repeat (first | apply Kd.R_alloc | apply Kd.R_drewN | apply Kd.R_drew)); exact Kd.R_mono (Kd.R_far (p := ⟨gb125, 1, none⟩) (Kd.R_far (p := ⟨gb125, 0, none⟩) (Kd.R_far (p := ⟨gb132, 1, none⟩) (Kd.R_far (p := ⟨gb132, 0, none⟩) (Kd.R_types (Kd.R_types HO131.out BK132.out (by decide)) BK125.out (by decide)) (fun _ hk => hk.1.2) (.slice Ao64 t126.length co64)) (fun _ hk => hk.1.2) (.slice Ao63 t129.length co63)) (fun _ hk => hk.2) (.slice Ao64 t126.length co64)) (fun _ hk => hk.2) (.slice Ao63 t129.length co63)) (fun _ hk => hk.1.1), by repeat (first | (with_reducible first | exact HB.out | apply below_alloc | apply pw_below_drewN | apply below_drew1 | refine below_set ?_ GE124.out | refine below_set ?_ GE125.out | refine below_set ?_ GE132.out) | exact HB.out)⟩

end Go.Proofs.Ythnlepmfjhhgfaa.PDiskPrefix
