-- Printed by a patched copy of the kit's printer (wip/prt); nothing here is trusted, Lean checks it.
import Derived.Test.YthnlepmfjhhgfaaPJournalCrashx0
import Derived.Test.YthnlepmfjhhgfaaPJournalCrashx1
import Derived.Test.YthnlepmfjhhgfaaPJournalCrashx4
namespace Go.Proofs.Ythnlepmfjhhgfaa.PJournalCrash
open Go.RowKit Go.Proofs.YthnlepmfjhhgfaaW.PrintWords Go.Proofs.YthnlepmfjhhgfaaW.PrintLast Go.Proofs.YthnlepmfjhhgfaaW.PrintMore
attribute [local go_sem] max2_int min2_int max_two min_two max_three min_three max_four min_four   -- for this text's walks alone
set_option linter.unusedVariables false
set_option linter.unusedSimpArgs false

/-! ### customslaw34_JournalCrash: function 10 -/
mutual
def customslaw34_JournalCrash.l0 : Nat → List (List Int) → List (List Int) → Int → Int → List Int → List Int → Option (Bool)
  | 0, _, _, _, _, _, _ => none
  | k + 1, x0, x1, x2, x8, x300000, x300001 => if x8 < (x0.length : Int) then (if 0 ≤ x8 then ((journal_Append.f k x300000 x300001 (rd_L1 x0 x8)).bind fun bt301 => (if bt301.2.2 = 0 then (customslaw34_JournalCrash.l0 k x0 x1 x2 (wrap64 (x8 + 1)) bt301.1 bt301.2.1) else (some false))) else (none)) else (customslaw34_JournalCrash.l1 k x0 x1 x2 0 x300000 x300001)
def customslaw34_JournalCrash.l1 : Nat → List (List Int) → List (List Int) → Int → Int → List Int → List Int → Option (Bool)
  | 0, _, _, _, _, _, _ => none
  | k + 1, x0, x1, x2, x11, x300000, x300001 => if x11 < (x1.length : Int) then (if 0 ≤ x11 then ((journal_Put.f k x300000 x300001 1 (rd_L1 x1 x11)).bind fun bt310 => (if bt310.2.2 = 0 then (customslaw34_JournalCrash.l1 k x0 x1 x2 (wrap64 (x11 + 1)) bt310.1 bt310.2.1) else (some false))) else (none)) else ((some (([] : List (List Int)) : List (List Int))).bind fun y318 => (if y318.length + x0.length < 5864062014805 then ((some (y318 ++ x0 : List (List Int))).bind fun y321 => (if y321.length + x1.length < 5864062014805 then ((some (y321 ++ x1 : List (List Int))).bind fun y324 => ((customsmade_Within.f x2 5000).bind fun t327 => ((disk_Crash.f x300000 x300001 t327).bind fun bt328 => ((journal_Open.f k bt328.1 bt328.2).bind fun bt334 => (if bt334.2.2.2.1 = true then (customslaw34_JournalCrash.j2 k bt334.2.2.2.2 true bt334.1 bt334.2.1) else (if (bt334.2.2.2.2.length : Int) < (x0.length : Int) then (customslaw34_JournalCrash.j2 k bt334.2.2.2.2 true bt334.1 bt334.2.1) else (if (bt334.2.2.2.2.length : Int) > (y324.length : Int) then (customslaw34_JournalCrash.j2 k bt334.2.2.2.2 true bt334.1 bt334.2.1) else (if 0 ≤ (bt334.2.2.2.2.length : Int) then (if (bt334.2.2.2.2.length : Int) ≤ (y324.length : Int) then ((customsref33_SameRecords.f k bt334.2.2.2.2 (y324.take ((bt334.2.2.2.2.length : Int) : Int).toNat)).bind fun t353 => (customslaw34_JournalCrash.j2 k bt334.2.2.2.2 (!t353) bt334.1 bt334.2.1)) else (none)) else (none))))))))) else (none))) else (none)))
def customslaw34_JournalCrash.j2 : Nat → List (List Int) → Bool → List Int → List Int → Option (Bool)
  | 0, _, _, _, _ => none
  | k + 1, x18, x104, x348000, x348001 => if x104 = true then (some false) else ((journal_Append.f k x348000 x348001 (([109, 111, 114, 101] : List Int))).bind fun bt357 => ((journal_Open.f k bt357.1 bt357.2.1).bind fun bt365 => (if bt357.2.2 = 0 then ((some (([] : List (List Int)) : List (List Int))).bind fun y379 => (if y379.length + x18.length < 5864062014805 then ((some (y379 ++ x18 : List (List Int))).bind fun y382 => (if y382.length < 5864062014805 then ((customsref33_SameRecords.f k bt365.2.2.2.2 (y382 ++ [(([109, 111, 114, 101] : List Int))])).bind fun t391 => (if t391 = true then ((customslaw34_awake.f k).bind fun t392 => (some t392)) else (some false))) else (none))) else (none))) else (some false))))
end
def customslaw34_JournalCrash.f (k : Nat) (l0 : List (List Int)) (l1 : List (List Int)) (a2 : Int) : Option (Bool) := (customslaw34_cut.f k l0).bind fun t293 => ((customslaw34_cut.f k l1).bind fun t296 => (customslaw34_JournalCrash.l0 k t293 t296 a2 0 ([] : List Int) ([] : List Int)))
theorem customslaw34_JournalCrash.mono_l : ∀ k, (∀ y0 y1 y2 y3 y4 y5, LeO (customslaw34_JournalCrash.l0 k y0 y1 y2 y3 y4 y5) (customslaw34_JournalCrash.l0 (k + 1) y0 y1 y2 y3 y4 y5)) ∧ (∀ y0 y1 y2 y3 y4 y5, LeO (customslaw34_JournalCrash.l1 k y0 y1 y2 y3 y4 y5) (customslaw34_JournalCrash.l1 (k + 1) y0 y1 y2 y3 y4 y5)) ∧ (∀ y0 y1 y2 y3, LeO (customslaw34_JournalCrash.j2 k y0 y1 y2 y3) (customslaw34_JournalCrash.j2 (k + 1) y0 y1 y2 y3))
  | 0 => ⟨fun _ _ _ _ _ _ r h => by simp [customslaw34_JournalCrash.l0] at h, fun _ _ _ _ _ _ r h => by simp [customslaw34_JournalCrash.l1] at h, fun _ _ _ _ r h => by simp [customslaw34_JournalCrash.j2] at h⟩
  | k + 1 => by
    obtain ⟨ih0, ih1, ih2⟩ := customslaw34_JournalCrash.mono_l k
    refine ⟨?_, ?_, ?_⟩
    · intro y0 y1 y2 y3 y4 y5
      unfold customslaw34_JournalCrash.l0
      repeat' first
      | (with_reducible exact ih0 _ _ _ _ _ _)
      | (with_reducible exact ih1 _ _ _ _ _ _)
      | (with_reducible exact ih2 _ _ _ _)
      | (with_reducible exact customslaw34_awake.mono _)
      | (with_reducible exact customslaw34_cut.mono _ _)
      | (with_reducible exact customsref33_SameRecords.mono _ _ _)
      | (with_reducible exact journal_Append.mono _ _ _ _)
      | (with_reducible exact journal_Open.mono _ _ _)
      | (with_reducible exact journal_Put.mono _ _ _ _ _)
      | (with_reducible exact LeO.refl _)
      | (with_reducible exact LeO.none _)
      | (with_reducible refine LeO.ite ?_ ?_)
      | (with_reducible refine LeO.bind ?_ (fun _ => ?_))
      | exact ih0 _ _ _ _ _ _
      | exact ih1 _ _ _ _ _ _
      | exact ih2 _ _ _ _
      | exact customslaw34_awake.mono _
      | exact customslaw34_cut.mono _ _
      | exact customsref33_SameRecords.mono _ _ _
      | exact journal_Append.mono _ _ _ _
      | exact journal_Open.mono _ _ _
      | exact journal_Put.mono _ _ _ _ _
      | exact LeO.none _
      | refine LeO.ite ?_ ?_
      | refine LeO.bind ?_ (fun _ => ?_)
    · intro y0 y1 y2 y3 y4 y5
      unfold customslaw34_JournalCrash.l1
      repeat' first
      | (with_reducible exact ih0 _ _ _ _ _ _)
      | (with_reducible exact ih1 _ _ _ _ _ _)
      | (with_reducible exact ih2 _ _ _ _)
      | (with_reducible exact customslaw34_awake.mono _)
      | (with_reducible exact customslaw34_cut.mono _ _)
      | (with_reducible exact customsref33_SameRecords.mono _ _ _)
      | (with_reducible exact journal_Append.mono _ _ _ _)
      | (with_reducible exact journal_Open.mono _ _ _)
      | (with_reducible exact journal_Put.mono _ _ _ _ _)
      | (with_reducible exact LeO.refl _)
      | (with_reducible exact LeO.none _)
      | (with_reducible refine LeO.ite ?_ ?_)
      | (with_reducible refine LeO.bind ?_ (fun _ => ?_))
      | exact ih0 _ _ _ _ _ _
      | exact ih1 _ _ _ _ _ _
      | exact ih2 _ _ _ _
      | exact customslaw34_awake.mono _
      | exact customslaw34_cut.mono _ _
      | exact customsref33_SameRecords.mono _ _ _
      | exact journal_Append.mono _ _ _ _
      | exact journal_Open.mono _ _ _
      | exact journal_Put.mono _ _ _ _ _
      | exact LeO.none _
      | refine LeO.ite ?_ ?_
      | refine LeO.bind ?_ (fun _ => ?_)
    · intro y0 y1 y2 y3
      unfold customslaw34_JournalCrash.j2
      repeat' first
      | (with_reducible exact ih0 _ _ _ _ _ _)
      | (with_reducible exact ih1 _ _ _ _ _ _)
      | (with_reducible exact ih2 _ _ _ _)
      | (with_reducible exact customslaw34_awake.mono _)
      | (with_reducible exact customslaw34_cut.mono _ _)
      | (with_reducible exact customsref33_SameRecords.mono _ _ _)
      | (with_reducible exact journal_Append.mono _ _ _ _)
      | (with_reducible exact journal_Open.mono _ _ _)
      | (with_reducible exact journal_Put.mono _ _ _ _ _)
      | (with_reducible exact LeO.refl _)
      | (with_reducible exact LeO.none _)
      | (with_reducible refine LeO.ite ?_ ?_)
      | (with_reducible refine LeO.bind ?_ (fun _ => ?_))
      | exact ih0 _ _ _ _ _ _
      | exact ih1 _ _ _ _ _ _
      | exact ih2 _ _ _ _
      | exact customslaw34_awake.mono _
      | exact customslaw34_cut.mono _ _
      | exact customsref33_SameRecords.mono _ _ _
      | exact journal_Append.mono _ _ _ _
      | exact journal_Open.mono _ _ _
      | exact journal_Put.mono _ _ _ _ _
      | exact LeO.none _
      | refine LeO.ite ?_ ?_
      | refine LeO.bind ?_ (fun _ => ?_)
theorem customslaw34_JournalCrash.mono : ∀ a0 a1 a2 k, LeO (customslaw34_JournalCrash.f k a0 a1 a2) (customslaw34_JournalCrash.f (k + 1) a0 a1 a2) := by
  intro a0 a1 a2 k
  obtain ⟨ih0, ih1, ih2⟩ := customslaw34_JournalCrash.mono_l k
  unfold customslaw34_JournalCrash.f
  repeat' first
      | (with_reducible exact ih0 _ _ _ _ _ _)
      | (with_reducible exact ih1 _ _ _ _ _ _)
      | (with_reducible exact ih2 _ _ _ _)
      | (with_reducible exact customslaw34_awake.mono _)
      | (with_reducible exact customslaw34_cut.mono _ _)
      | (with_reducible exact customsref33_SameRecords.mono _ _ _)
      | (with_reducible exact journal_Append.mono _ _ _ _)
      | (with_reducible exact journal_Open.mono _ _ _)
      | (with_reducible exact journal_Put.mono _ _ _ _ _)
      | (with_reducible exact LeO.refl _)
      | (with_reducible exact LeO.none _)
      | (with_reducible refine LeO.ite ?_ ?_)
      | (with_reducible refine LeO.bind ?_ (fun _ => ?_))
      | exact ih0 _ _ _ _ _ _
      | exact ih1 _ _ _ _ _ _
      | exact ih2 _ _ _ _
      | exact customslaw34_awake.mono _
      | exact customslaw34_cut.mono _ _
      | exact customsref33_SameRecords.mono _ _ _
      | exact journal_Append.mono _ _ _ _
      | exact journal_Open.mono _ _ _
      | exact journal_Put.mono _ _ _ _ _
      | exact LeO.none _
      | refine LeO.ite ?_ ?_
      | refine LeO.bind ?_ (fun _ => ?_)
def customslaw34_JournalCrash.T6 : Bool × List (List Nat × List Nat) := (true, [([], []), ([], []), ([], []), ([1, 2], [1, 2]), ([3], [3]), ([0, 4], [0, 4]), ([5], [5]), ([6], [6]), ([6], [6]), ([], []), ([9, 7, 5, 0, 1, 2, 3, 4, 5, 6, 7, 9], [7, 9]), ([8, 10, 0, 1, 2, 3, 4, 5, 6, 7, 8, 9, 10], [8])])
def customslaw34_JournalCrash.B6 : List Nat := [0, 0, 0, 6, 14, 31, 63, 127, 127, 0, 767, 2047]
theorem customslaw34_JournalCrash.tab6 : rtab .any (opsOf Try.f10 6) = customslaw34_JournalCrash.T6 := by kernel_rfl
theorem customslaw34_JournalCrash.bits6 : waitsOk customslaw34_JournalCrash.T6.2 customslaw34_JournalCrash.B6 = true := by kernel_rfl
def customslaw34_JournalCrash.T13 : Bool × List (List Nat × List Nat) := (true, [([], []), ([], []), ([], []), ([1, 2], [1, 2]), ([3], [3]), ([4], [4]), ([0, 5], [0, 5]), ([6], [6]), ([7], [7]), ([7], [7]), ([], []), ([10, 8, 6, 0, 1, 2, 3, 4, 5, 6, 7, 8, 10], [8, 10]), ([9, 11, 0, 1, 2, 3, 4, 5, 6, 7, 8, 9, 10, 11], [9])])
def customslaw34_JournalCrash.B13 : List Nat := [0, 0, 0, 6, 14, 30, 63, 127, 255, 255, 0, 1535, 4095]
theorem customslaw34_JournalCrash.tab13 : rtab .any (opsOf Try.f10 13) = customslaw34_JournalCrash.T13 := by kernel_rfl
theorem customslaw34_JournalCrash.bits13 : waitsOk customslaw34_JournalCrash.T13.2 customslaw34_JournalCrash.B13 = true := by kernel_rfl
def customslaw34_JournalCrash.T18 : Bool × List (List Nat × List Nat) := (true, [([], []), ([], []), ([1], [1]), ([0, 2, 2], [0, 2]), ([3, 3], [3]), ([4], [4]), ([5], [5]), ([5], [5]), ([5], [5]), ([5], [5]), ([], []), ([10, 6, 4, 0, 1, 2, 3, 4, 5, 6, 10], [6, 10]), ([7, 11, 0, 1, 2, 3, 4, 5, 6, 7, 10, 11], [7]), ([8, 12, 0, 1, 2, 3, 4, 5, 6, 7, 8, 10, 11, 12], [8]), ([9, 13, 0, 1, 2, 3, 4, 5, 6, 7, 8, 9, 10, 11, 12, 13], [9])])
def customslaw34_JournalCrash.B18 : List Nat := [0, 0, 2, 7, 15, 31, 63, 63, 63, 63, 0, 1151, 3327, 7679, 16383]
theorem customslaw34_JournalCrash.tab18 : rtab .any (opsOf Try.f10 18) = customslaw34_JournalCrash.T18 := by kernel_rfl
theorem customslaw34_JournalCrash.bits18 : waitsOk customslaw34_JournalCrash.T18.2 customslaw34_JournalCrash.B18 = true := by kernel_rfl
set_option maxHeartbeats 8000000 in
set_option maxRecDepth 100000 in
theorem customslaw34_JournalCrash.calls (k : Nat) (A0 : Option Addr) (c0 : Nat) (l0 : List (List Int)) (A1 : Option Addr) (c1 : Nat) (l1 : List (List Int)) (a2 : Int) (w : World) (hr0 : Kd.C (Kd.slice 5 (Kd.int .u8)) w A0 l0.length l0) (hc0 : l0.length ≤ c0) (hr1 : Kd.C (Kd.slice 5 (Kd.int .u8)) w A1 l1.length l1) (hc1 : l1.length ≤ c1) (h : customslaw34_JournalCrash.f k l0 l1 a2 = some true) :
    Calls Try.prog 10 #[.slice A0 l0.length c0, .slice A1 l1.length c1, .int .i64 a2] w fun e w' => e = .returned (.bool true) ∧ Below w.heap.size w w' := by
  have hu24 := Try.underlying24
  have hu43 := Try.underlying43
  have HR0 := Aside0.mk hr0
  have HC0 := Aside0.mk hc0
  clear hr0 hc0
  have HR1 := Aside0.mk hr1
  have HC1 := Aside0.mk hc1
  clear hr1 hc1
  have HB := Aside0.mk (Below.refl w.heap.size w)
  have H : ((customslaw34_cut.f k l0).bind fun t293 => ((customslaw34_cut.f k l1).bind fun t296 => (customslaw34_JournalCrash.l0 k t293 t296 a2 0 ([] : List Int) ([] : List Int)))) = some true := h
  clear h
  replace H := Option.bind_eq_some_iff.mp H
  obtain ⟨t293, A40, H⟩ := H
  replace H : ((customslaw34_cut.f k l1).bind fun t296 => (customslaw34_JournalCrash.l0 k t293 t296 a2 0 ([] : List Int) ([] : List Int))) = some true := H
  have A4 := Aside0.mk A40
  clear A40
  replace H := Option.bind_eq_some_iff.mp H
  obtain ⟨t296, A50, H⟩ := H
  replace H : (customslaw34_JournalCrash.l0 k t293 t296 a2 0 ([] : List Int) ([] : List Int)) = some true := H
  have A5 := Aside0.mk A50
  clear A50
  have H' := Aside0.mk H
  clear H
  go_enter Try.func10, Try.ntmps10
  go_wp2_with (first | ((with_reducible refine gate_callee (f := 33) rfl ?_); refine goesL_ (some 26) rfl rfl Try.func33 (by kernel_rfl) rfl #[.slice A0 l0.length c0] rfl (by (try simp only [List.map_toArray, List.map_cons, List.map_nil]); first | done | rfl | (simp only [List.length_drop, List.length_take]; rfl)) ?_; (with_reducible refine (customslaw34_cut.calls k (fun k_ => k_ < w.heap.size) _ _ l0 t293 _ ?side1 A4.out).mono ?_); (case side1 => exact Kd.V_mk HC0.out (Kd.F_below (Kd.C_F (Kd.heap_slice 5 (Kd.heap_int .u8)) HR0.out) (by exact pB HB.out))); rintro e w6 ⟨v294, rfl, ho0, hb⟩; refine ⟨_, rfl, ?_⟩; have n0_ := Aside0.mk (Kd.N_lower (Kd.N_mono (ok' := fun k_ => True) ho0 (fun k_ hk_ => trivial)) (below_size (by exact pB HB.out))); have n1_ := Aside0.mk (below_step (by exact pB HB.out) hb); clear HB; have HO295 := n0_; have HB := n1_; clear n0_ n1_; (try clear hb); (try clear hb2); (try clear hk); (try clear hi); (try clear ho0)) | ((with_reducible refine gate_callee (f := 33) rfl ?_); refine goesL_ (some 28) rfl rfl Try.func33 (by kernel_rfl) rfl #[.slice A1 l1.length c1] rfl (by (try simp only [List.map_toArray, List.map_cons, List.map_nil]); first | done | rfl | (simp only [List.length_drop, List.length_take]; rfl)) ?_; (with_reducible refine (customslaw34_cut.calls k (fun k_ => k_ < w.heap.size) _ _ l1 t296 _ ?side1 A5.out).mono ?_); (case side1 => exact Kd.V_mk HC1.out (Kd.F_below (Kd.C_F (Kd.heap_slice 5 (Kd.heap_int .u8)) HR1.out) (by exact pB HB.out))); rintro e w7 ⟨v297, rfl, ho0, hb⟩; refine ⟨_, rfl, ?_⟩; have n0_ := Aside0.mk (Kd.N_elder' (by exact pN HO295.out) (by first | exact Kd.N_base ho0 | exact Kd.S_base ho0 | exact Kd.R_base ho0 | exact Kd.Q_base ho0) hb); have n1_ := Aside0.mk (Kd.N_lower (Kd.N_mono (ok' := fun k_ => some k_ ≠ (v294 : Value).ownBlock) ho0 (fun k_ hk_ => Or.elim hk_ (fun hs_ => fun e_ => Nat.not_le.2 hs_ (Kd.N_base HO295.out k_ e_.symm)) (fun hn_ => (Kd.fresh' (Kd.N_lt (by exact pN HO295.out)) k_ hn_)))) (below_size (by exact pB HB.out))); have n2_ := Aside0.mk (below_step (by exact pB HB.out) hb); clear HO295; clear HB; have HO295 := n0_; have HO298 := n1_; have HB := n2_; clear n0_ n1_ n2_; (try clear hb); (try clear hb2); (try clear hk); (try clear hi); (try clear ho0)) | ((with_reducible refine gate_dst (N := 7) rfl ?_); (try (refine gate_guard (by rfl) ?_; dsimp only)); refine box_event ?hg (N := 7) ?hd (cs := #[.slice none 0 0, .slice none 0 0]) (t := 24) ?hr ?_; (case hd => rfl); (case hg => rfl); (case hr => first | (go_simp; done) | (go_simp; rfl)); intro gb299 hg w8 hbox hb; have n0_ := Aside0.mk (Kd.N_below (Kd.N_elderB (by exact pN HO295.out) gb299 (Nat.le_of_eq hg.symm)) hb); have n1_ := Aside0.mk (Kd.N_below (Kd.N_elderB (by exact pN HO298.out) gb299 (Nat.le_of_eq hg.symm)) hb); have n2_ := Aside0.mk (below_step (by exact pB HB.out) hb); have n3_ := Aside0.mk (hbox); have n4_ := Aside0.mk ((by rw [hg]; exact (below_size (by exact pB HB.out)) : w.heap.size ≤ gb299)); have n5_ := Aside0.mk ((by rw [hg]; exact (below_size (by exact pB HB.out)) : w.heap.size ≤ gb299)); clear HO295; clear HO298; clear HB; have HO295 := n0_; have HO298 := n1_; have HB := n2_; have BK299 := n3_; have GW299 := n4_; have GE299 := n5_; clear n0_ n1_ n2_ n3_ n4_ n5_; clear hb hbox hg))
  go_loopg [8] k (fun kq v8 w' => ∃ (x8_1 : Int) (x300000_1 : List Int) (x300001_1 : List Int) (u300000 : Value) (u300001 : Value), v8 = .int .i64 x8_1 ∧ Aside0 (customslaw34_JournalCrash.l0 kq t293 t296 a2 x8_1 x300000_1 x300001_1 = some true) ∧ Aside0 (kq ≤ k) ∧ Aside0 (Kd.N (Kd.slice 5 (Kd.int .u8)) 22 w' w.heap.size (fun k_ => some k_ ≠ (v297 : Value).ownBlock ∧ some k_ ≠ (u300000 : Value).ownBlock ∧ some k_ ≠ (u300001 : Value).ownBlock ∧ k_ ≠ gb299) v294 t293) ∧ Aside0 (Kd.N (Kd.slice 5 (Kd.int .u8)) 22 w' w.heap.size (fun k_ => some k_ ≠ (v294 : Value).ownBlock ∧ some k_ ≠ (u300000 : Value).ownBlock ∧ some k_ ≠ (u300001 : Value).ownBlock ∧ k_ ≠ gb299) v297 t296) ∧ Aside0 (Kd.R (Kd.int .u8) 5 w' w.heap.size (fun k_ => some k_ ≠ (u300001 : Value).ownBlock) u300000 x300000_1) ∧ Aside0 (Kd.R (Kd.int .u8) 5 w' w.heap.size (fun k_ => some k_ ≠ (u300000 : Value).ownBlock) u300001 x300001_1) ∧ Aside0 (w'.heap[gb299]? = some (.cells #[u300000, u300001] 24 (0, 0))) ∧ Aside0 (Below w.heap.size w w'))
  case atStart => exact ⟨(0), (([] : List Int)), (([] : List Int)), (.slice none 0 0), (.slice none 0 0), (by first | rfl | (simp; done) | (simp [*]; done)), H', ⟨Nat.le_refl _⟩, ⟨by exact pN (Kd.N_mono HO295.out (fun _ hk => ⟨hk.1.2, ⟨(by simp [Value.ownBlock]), ⟨(by simp [Value.ownBlock]), hk.2⟩⟩⟩))⟩, ⟨by exact pN (Kd.N_mono HO298.out (fun _ hk => ⟨hk.1, ⟨(by simp [Value.ownBlock]), ⟨(by simp [Value.ownBlock]), hk.2⟩⟩⟩))⟩, ⟨by first | exact Kd.R_nil _ _ _ _ _ | exact Kd.N_nil _ _ _ _ _ | exact Kd.V_nil _ _ _ _ _ | exact Kd.Q_nil _ _ _ _ _ | exact Kd.S_nil _ _ _ _ _⟩, ⟨by first | exact Kd.R_nil _ _ _ _ _ | exact Kd.N_nil _ _ _ _ _ | exact Kd.V_nil _ _ _ _ _ | exact Kd.Q_nil _ _ _ _ _ | exact Kd.S_nil _ _ _ _ _⟩, ⟨by exact pK BK299.out⟩, ⟨by exact pB HB.out⟩⟩
  case round =>
    clear H'
    try clear c1
    try clear p2
    try clear c3
    obtain ⟨x8_1, x300000_1, x300001_1, u300000, u300001, rfl, HA, HK1, HO_0, HO_1, HO_300000, HO_300001, BK299, HB⟩ := hrel
    cases gk with
    | zero => exact absurd HA.out (by simp [customslaw34_JournalCrash.l0])
    | succ k1 =>
      have H := HA.out
      clear HA
      simp only [customslaw34_JournalCrash.l0] at H
      by_cases c9 : x8_1 < (t293.length : Int)
      · rw [if_pos c9] at H
        have c9b0 : decide (x8_1 < (t293.length : Int)) = true := decide_eq_true c9
        clear c9
        have c10 : 0 ≤ x8_1 := by
          refine Classical.byContradiction fun c10 => ?_
          rw [if_neg c10] at H
          exact absurd H (by simp)
        rw [if_pos c10] at H
        have c10b0 : decide (0 ≤ x8_1) = true := decide_eq_true c10
        clear c10
        replace H := Option.bind_eq_some_iff.mp H
        obtain ⟨⟨t301, t304, t307⟩, A110, H⟩ := H
        replace H : (if t307 = 0 then (customslaw34_JournalCrash.l0 k1 t293 t296 a2 (wrap64 (x8_1 + 1)) t301 t304) else (some false)) = some true := H
        have A11 := Aside0.mk A110
        clear A110
        have c12 : t307 = 0 := by
          refine Classical.byContradiction fun c12 => ?_
          rw [if_neg c12] at H
          exact absurd (Option.some.inj H) (by simp)
        rw [if_pos c12] at H
        have c12b0 : (t307 == 0) = true := beq_iff_eq.mpr c12
        have c12b1 : (t307 != 0) = false := bne_eq_false_iff_eq.mpr c12
        clear c12
        have H' := Aside0.mk H
        clear H
        obtain ⟨Ao13, co13, eo13⟩ := Kd.N_slice HO_0.out
        subst eo13
        obtain ⟨Ao14, co14, eo14⟩ := Kd.R_slice HO_300000.out
        subst eo14
        obtain ⟨Ao15, co15, eo15⟩ := Kd.R_slice HO_300001.out
        subst eo15
        try go_wp2
        have n0_ := Aside0.mk (Kd.N_drew HO_0.out)
        have n1_ := Aside0.mk (Kd.N_drew HO_1.out)
        have n2_ := Aside0.mk (Kd.R_drew HO_300000.out)
        have n3_ := Aside0.mk (Kd.R_drew HO_300001.out)
        have n4_ := Aside0.mk (blk_drew BK299.out)
        have n5_ := Aside0.mk (below_drew1 HB.out)
        clear HO_0
        clear HO_1
        clear HO_300000
        clear HO_300001
        clear BK299
        clear HB
        have HO_0 := n0_
        have HO_1 := n1_
        have HO_300000 := n2_
        have HO_300001 := n3_
        have BK299 := n4_
        have HB := n5_
        clear n0_ n1_ n2_ n3_ n4_ n5_
        have p300 : 0 ≤ (x8_1 : Int) := of_decide_eq_true (by first | (with_reducible assumption) | assumption)
        have q300 : x8_1 < (t293.length : Int) := of_decide_eq_true (by first | (with_reducible assumption) | assumption)
        obtain ⟨ad300, A300_0, c300_0, e300, hx300_0, hl300_0, hi300_0⟩ := at_L1 (Kd.N_reads' HO_0.out).2.2 x8_1 p300 q300
        cases e300
        obtain ⟨ce300, hce300, hMe300, hcc300⟩ := Kd.N_get HO_0.out [] x8_1 p300 (by first | exact q300 | exact of_decide_eq_true (by first | (with_reducible assumption) | assumption) | (have e_ := (Kd.N_reads' HO_0.out).1; omega))
        obtain ⟨ua300_0, uc300_0, rfl, ul300_0, ge300_0⟩ := Kd.FK_slice_open hMe300
        have hv300_0 := hcc300 0 _ rfl
        rw [Nat.add_zero, show ((Kd.slice 5 (Kd.int .u8))).sz = 1 from rfl, Nat.mul_one] at hv300_0
        replace hv300_0 := Option.some.inj (hv300_0.symm.trans hx300_0)
        injection hv300_0 with hva_ hvn_ hvc_
        rw [hva_] at ge300_0
        rw [hvc_] at ul300_0
        have HL300_0 := Aside0.mk (show Kd.V (Kd.int .u8) 5 _ w.heap.size _ _ (rd_L1 t293 x8_1) from Kd.V_mk ul300_0 ge300_0)
        clear hva_ hvn_ hvc_ ge300_0 ul300_0
        clear hcc300 hce300
        have HR300_0 := Aside0.mk hi300_0
        have HC300_0 := Aside0.mk hl300_0
        clear hi300_0 hl300_0
        replace p300 := eq_true p300
        replace q300 := eq_true q300
        refine start_ (n := 12) (S := fun w' => w'.cell? ⟨gb299, 0, none⟩ = some (.slice Ao14 x300000_1.length co14) ∧ w'.cell? ⟨gb299, 1, none⟩ = some (.slice Ao15 x300001_1.length co15) ∧ w'.cell? (ad300.add (x8_1).toNat) = some (.slice A300_0 (rd_L1 t293 x8_1).length c300_0)) (ds := []) #[false, false, false, false, false, false, false, false, false, false, false, false] (by kernel_rfl) rfl rfl ⟨(blk_cell BK299.out 0).trans rfl, (blk_cell BK299.out 1).trans rfl, hx300_0⟩ (fun hHeld => ?_); refine with_tabW customslaw34_JournalCrash.tab6 customslaw34_JournalCrash.bits6 (fun HT_ HW_ => ?_)
        generalize wr.drew = w16 at HO_0 HO_1 HO_300000 HO_300001 BK299 HB HL300_0 HR300_0 hx300_0 hHeld ⊢
        refine pure_ (i := 1) (N := some 37) (v := ?_) (a' := ?_) #[false, true, false, false, false, false, false, false, false, false, false, false] rfl rfl (any_of HT_.out (by kernel_rfl)) (fun _ _ _ h => h) (Or.inl ⟨by rfl, ?_⟩) ?_ ?_
        rotate_left
        · intro w'
          go_simp
          with_reducible rfl
        rotate_left
        · simp only [Act.put, List.setIfInBounds_toArray, List.set_cons_zero, List.set_cons_succ, i64_w, i32_w]
          rfl
        refine pure_ (i := 2) (N := some 38) (v := ?_) (a' := ?_) #[false, true, true, false, false, false, false, false, false, false, false, false] rfl rfl (any_of HT_.out (by kernel_rfl)) (fun _ _ _ h => h) (Or.inl ⟨by rfl, ?_⟩) ?_ ?_
        rotate_left
        · intro w'
          go_simp
          with_reducible rfl
        rotate_left
        · simp only [Act.put, List.setIfInBounds_toArray, List.set_cons_zero, List.set_cons_succ, i64_w, i32_w]
          rfl
        refine pure_ (i := 3) (N := some 39) (v := ?_) (a' := ?_) #[false, true, true, true, false, false, false, false, false, false, false, false] rfl rfl (any_of HT_.out (by kernel_rfl)) (fun _ _ _ h => h) (Or.inl ⟨by rfl, ?_⟩) ?_ ?_
        rotate_left
        · intro w'
          go_simp
          with_reducible rfl
        rotate_left
        · simp only [Act.put, List.setIfInBounds_toArray, List.set_cons_zero, List.set_cons_succ, i64_w, i32_w]
          rfl
        refine take_ (i := 0) (N := some 36) (v := ?_) (a' := ?_) #[true, true, true, true, false, false, false, false, false, false, false, false] rfl rfl (take_ofW HT_.out HW_.out (by kernel_rfl)) (fun _ _ _ h => h) (Or.inl ⟨by rfl, ?_⟩) hHeld ?_ ?_
        rotate_left
        · rintro w' ⟨s0, s1, s2⟩
          go_simp
          with_reducible rfl
        rotate_left
        · simp only [Act.put, List.setIfInBounds_toArray, List.set_cons_zero, List.set_cons_succ, i64_w, i32_w]
          rfl
        refine take_ (i := 4) (N := some 40) (v := ?_) (a' := ?_) #[true, true, true, true, true, false, false, false, false, false, false, false] rfl rfl (take_ofW HT_.out HW_.out (by kernel_rfl)) (fun _ _ _ h => h) (Or.inl ⟨by rfl, ?_⟩) hHeld ?_ ?_
        rotate_left
        · rintro w' ⟨s0, s1, s2⟩
          go_simp
          with_reducible rfl
        rotate_left
        · simp only [Act.put, List.setIfInBounds_toArray, List.set_cons_zero, List.set_cons_succ, i64_w, i32_w]
          rfl
        refine join_ (σ := Value × Value × Nat) 2 #[true, true, true, true, true, true, true, true, true, true, false, false] (fun s_ => [(41, .tuple #[.agg #[s_.1, s_.2.1], .int .i64 t307]), (9, .pointer (some ⟨s_.2.2, 0, none⟩)), (35, .tuple #[.agg #[s_.1, s_.2.1], .int .i64 t307]), (42, .agg #[s_.1, s_.2.1]), (43, .int .i64 t307)]) (fun s_ w' => (w'.cell? ⟨gb299, 0, none⟩ = some (.slice Ao14 x300000_1.length co14) ∧ w'.cell? ⟨gb299, 1, none⟩ = some (.slice Ao15 x300001_1.length co15) ∧ w'.cell? (ad300.add (x8_1).toNat) = some (.slice A300_0 (rd_L1 t293 x8_1).length c300_0)) ∧ (Kd.V (Kd.int .u8) 5 w' w.heap.size (fun k_ => some k_ ≠ (s_.1 : Value).ownBlock ∧ some k_ ≠ (s_.2.1 : Value).ownBlock ∧ some k_ ≠ (.slice (some ad300) t293.length co13 : Value).ownBlock ∧ some k_ ≠ (v297 : Value).ownBlock ∧ some k_ ≠ (.slice Ao14 x300000_1.length co14 : Value).ownBlock ∧ some k_ ≠ (.slice Ao15 x300001_1.length co15 : Value).ownBlock ∧ k_ ≠ gb299 ∧ k_ ≠ s_.2.2) (.slice A300_0 (rd_L1 t293 x8_1).length c300_0) (rd_L1 t293 x8_1)) ∧ (Kd.R (Kd.int .u8) 5 w' w.heap.size (fun k_ => some k_ ≠ (s_.2.1 : Value).ownBlock ∧ some k_ ≠ (.slice Ao14 x300000_1.length co14 : Value).ownBlock ∧ some k_ ≠ (.slice Ao15 x300001_1.length co15 : Value).ownBlock) s_.1 t301) ∧ (Kd.R (Kd.int .u8) 5 w' w.heap.size (fun k_ => some k_ ≠ (s_.1 : Value).ownBlock ∧ some k_ ≠ (.slice Ao14 x300000_1.length co14 : Value).ownBlock ∧ some k_ ≠ (.slice Ao15 x300001_1.length co15 : Value).ownBlock) s_.2.1 t304) ∧ (Kd.N (Kd.slice 5 (Kd.int .u8)) 22 w' w.heap.size (fun k_ => some k_ ≠ (s_.1 : Value).ownBlock ∧ some k_ ≠ (s_.2.1 : Value).ownBlock ∧ some k_ ≠ (v297 : Value).ownBlock ∧ some k_ ≠ (.slice Ao14 x300000_1.length co14 : Value).ownBlock ∧ some k_ ≠ (.slice Ao15 x300001_1.length co15 : Value).ownBlock ∧ k_ ≠ gb299 ∧ k_ ≠ s_.2.2) (.slice (some ad300) t293.length co13) t293) ∧ (Kd.N (Kd.slice 5 (Kd.int .u8)) 22 w' w.heap.size (fun k_ => some k_ ≠ (s_.1 : Value).ownBlock ∧ some k_ ≠ (s_.2.1 : Value).ownBlock ∧ some k_ ≠ (.slice (some ad300) t293.length co13 : Value).ownBlock ∧ some k_ ≠ (.slice Ao14 x300000_1.length co14 : Value).ownBlock ∧ some k_ ≠ (.slice Ao15 x300001_1.length co15 : Value).ownBlock ∧ k_ ≠ gb299 ∧ k_ ≠ s_.2.2) v297 t296) ∧ (Kd.R (Kd.int .u8) 5 w' w.heap.size (fun k_ => some k_ ≠ (s_.1 : Value).ownBlock ∧ some k_ ≠ (s_.2.1 : Value).ownBlock ∧ some k_ ≠ (.slice Ao15 x300001_1.length co15 : Value).ownBlock) (.slice Ao14 x300000_1.length co14) x300000_1) ∧ (Kd.R (Kd.int .u8) 5 w' w.heap.size (fun k_ => some k_ ≠ (s_.1 : Value).ownBlock ∧ some k_ ≠ (s_.2.1 : Value).ownBlock ∧ some k_ ≠ (.slice Ao14 x300000_1.length co14 : Value).ownBlock) (.slice Ao15 x300001_1.length co15) x300001_1) ∧ (w'.heap[gb299]? = some (.cells #[.slice Ao14 x300000_1.length co14, .slice Ao15 x300001_1.length co15] 24 (0, 0))) ∧ (w'.heap[s_.2.2]? = some (.cells #[.slice none 0 0, .slice none 0 0] 24 (0, 0))) ∧ (w.heap.size ≤ s_.2.2) ∧ (w.heap.size ≤ s_.2.2) ∧ (gb299 ≠ s_.2.2) ∧ (s_.2.2 ≠ gb299) ∧ (Below w.heap.size w w')) ?_ ?_
        rotate_left
        · intro hCont
          refine two_ (i := 5) (j := 9) (Ni := some 41) (Nj := some 9) #[true, true, true, true, true, true, false, false, false, false, false, false] #[true, true, true, true, true, false, false, false, false, true, false, false] rfl rfl rfl rfl (two_of HT_.out (by kernel_rfl)) (by decide) (by decide) (fun K hK => ?_) (fun K hK => ?_)
          · skip
            refine goes_ Try.func36 (by kernel_rfl) rfl #[.agg #[.slice Ao14 x300000_1.length co14, .slice Ao15 x300001_1.length co15], .slice A300_0 (rd_L1 t293 x8_1).length c300_0] (by rfl) rfl rfl (by (try simp only [List.map_toArray, List.map_cons, List.map_nil]); first | done | rfl | (simp only [List.length_drop, List.length_take]; rfl)) ?_
            with_reducible refine (journal_Append.calls k1 _ _ x300000_1 _ _ x300001_1 _ _ (rd_L1 t293 x8_1) t301 t304 t307 _ ?side1 ?side2 ?side3 ?side4 ?side5 ?side6 A11.out).mono ?_
            (case side1 => exact pC (Kd.R_reads' HO_300000.out).2.2)
            (case side2 => exact (Kd.R_reads' HO_300000.out).2.1)
            (case side3 => exact pC (Kd.R_reads' HO_300001.out).2.2)
            (case side4 => exact (Kd.R_reads' HO_300001.out).2.1)
            (case side5 => exact pC (by exact pC HR300_0.out))
            (case side6 => exact HC300_0.out)
            rintro e w17 ⟨v302, v305, rfl, ho0, ho1, hb⟩
            have HS2_ := (hb.cell (World.block_lt_of_cell? _ _ (hHeld.2.2))).trans (hHeld.2.2)
            refine ⟨_, rfl, ?_⟩
            have n0_ := Aside0.mk (Kd.N_mono (Kd.N_told (Kd.N_told (Kd.N_old (by exact pN HO_0.out) hb) (Kd.R_base ho0)) (Kd.R_base ho1)) (fun _ h_ => h_.1))
            have n1_ := Aside0.mk (Kd.N_mono (Kd.N_told (Kd.N_told (Kd.N_old (by exact pN HO_1.out) hb) (Kd.R_base ho0)) (Kd.R_base ho1)) (fun _ h_ => h_.1))
            have n2_ := Aside0.mk (Kd.R_mono (Kd.R_told (Kd.R_told (Kd.R_old (by exact pR HO_300000.out) hb) (Kd.R_base ho0)) (Kd.R_base ho1)) (fun _ h_ => h_.1))
            have n3_ := Aside0.mk (Kd.R_mono (Kd.R_told (Kd.R_told (Kd.R_old (by exact pR HO_300001.out) hb) (Kd.R_base ho0)) (Kd.R_base ho1)) (fun _ h_ => h_.1))
            have n4_ := Aside0.mk (Kd.V_mono (Kd.V_told (Kd.V_told (Kd.V_old (by exact pV HL300_0.out) hb) (Kd.R_base ho0)) (Kd.R_base ho1)) (fun _ h_ => h_.1))
            have n5_ := Aside0.mk (Kd.R_lower (Kd.R_new' (Kd.R_new' ho0 (Kd.R_lt (by exact pR HO_300000.out))) (Kd.R_lt (by exact pR HO_300001.out))) (below_size (by exact pB HB.out)))
            have n6_ := Aside0.mk (Kd.R_lower (Kd.R_new' (Kd.R_new' ho1 (Kd.R_lt (by exact pR HO_300000.out))) (Kd.R_lt (by exact pR HO_300001.out))) (below_size (by exact pB HB.out)))
            have n7_ := Aside0.mk (blk_below (g := gb299) (o := .cells #[.slice Ao14 x300000_1.length co14, .slice Ao15 x300001_1.length co15] 24 (0, 0)) (by exact pK BK299.out) hb)
            have n8_ := Aside0.mk (Kd.C_below (by exact pC HR300_0.out) hb)
            have n9_ := Aside0.mk (below_step (by exact pB HB.out) hb)
            clear HO_0
            clear HO_1
            clear HO_300000
            clear HO_300001
            clear HL300_0
            clear BK299
            clear HR300_0
            clear HB
            have HO_0 := n0_
            have HO_1 := n1_
            have HO_300000 := n2_
            have HO_300001 := n3_
            have HL300_0 := n4_
            have HO303 := n5_
            have HO306 := n6_
            have BK299 := n7_
            have HR300_0 := n8_
            have HB := n9_
            clear n0_ n1_ n2_ n3_ n4_ n5_ n6_ n7_ n8_ n9_
            (try clear hb)
            (try clear hb2)
            (try clear hk)
            (try clear hi)
            (try clear ho0)
            (try clear ho1)
            refine hK.out _ _ ⟨(blk_cell BK299.out 0).trans rfl, (blk_cell BK299.out 1).trans rfl, HS2_⟩ (fun hHeld => ?_)
            clear hK K
            refine norm_ (a' := ?_) ?_ ?_
            rotate_left
            · show Act.put _ (some 41) _ = _
              simp only [Act.put, List.setIfInBounds_toArray, List.set_cons_zero, List.set_cons_succ, i64_w, i32_w]
              rfl
            refine pure_ (i := 6) (N := some 35) (v := ?_) (a' := ?_) #[true, true, true, true, true, true, true, false, false, false, false, false] rfl rfl (any_of HT_.out (by kernel_rfl)) (fun _ _ _ h => h) (Or.inl ⟨by rfl, ?_⟩) ?_ ?_
            rotate_left
            · intro w'
              go_simp
              with_reducible rfl
            rotate_left
            · simp only [Act.put, List.setIfInBounds_toArray, List.set_cons_zero, List.set_cons_succ, i64_w, i32_w]
              rfl
            refine pure_ (i := 7) (N := some 42) (v := ?_) (a' := ?_) #[true, true, true, true, true, true, true, true, false, false, false, false] rfl rfl (any_of HT_.out (by kernel_rfl)) (fun _ _ _ h => h) (Or.inl ⟨by rfl, ?_⟩) ?_ ?_
            rotate_left
            · intro w'
              go_simp
              with_reducible rfl
            rotate_left
            · simp only [Act.put, List.setIfInBounds_toArray, List.set_cons_zero, List.set_cons_succ, i64_w, i32_w]
              rfl
            refine pure_ (i := 8) (N := some 43) (v := ?_) (a' := ?_) #[true, true, true, true, true, true, true, true, true, false, false, false] rfl rfl (any_of HT_.out (by kernel_rfl)) (fun _ _ _ h => h) (Or.inl ⟨by rfl, ?_⟩) ?_ ?_
            rotate_left
            · intro w'
              go_simp
              with_reducible rfl
            rotate_left
            · simp only [Act.put, List.setIfInBounds_toArray, List.set_cons_zero, List.set_cons_succ, i64_w, i32_w]
              rfl
            refine one_ (i := 9) (N := some 9) #[true, true, true, true, true, true, true, true, true, true, false, false] rfl rfl (one_of HT_.out (by kernel_rfl)) (by decide) (fun K hK => ?_)
            refine box_step ?hg (N := 9) ?hd (cs := #[.slice none 0 0, .slice none 0 0]) (t := 24) ?hr ?_; (case hd => rfl); (case hg => rfl); (case hr => first | (go_simp; done) | (go_simp; rfl))
            intro gb308 hg w18 hbox hb
            have HS2_ := (hb.cell (World.block_lt_of_cell? _ _ (hHeld.2.2))).trans (hHeld.2.2)
            have n0_ := Aside0.mk (Kd.N_below (Kd.N_elderB (by exact pN HO_0.out) gb308 (Nat.le_of_eq hg.symm)) hb)
            have n1_ := Aside0.mk (Kd.N_below (Kd.N_elderB (by exact pN HO_1.out) gb308 (Nat.le_of_eq hg.symm)) hb)
            have n2_ := Aside0.mk (Kd.R_below (by exact pR HO_300000.out) hb)
            have n3_ := Aside0.mk (Kd.R_below (by exact pR HO_300001.out) hb)
            have n4_ := Aside0.mk (Kd.V_below (Kd.V_elderB (by exact pV HL300_0.out) gb308 (Nat.le_of_eq hg.symm)) hb)
            have n5_ := Aside0.mk (Kd.R_below (by exact pR HO303.out) hb)
            have n6_ := Aside0.mk (Kd.R_below (by exact pR HO306.out) hb)
            have n7_ := Aside0.mk (blk_below (g := gb299) (o := .cells #[.slice Ao14 x300000_1.length co14, .slice Ao15 x300001_1.length co15] 24 (0, 0)) (by exact pK BK299.out) hb)
            have n8_ := Aside0.mk (Kd.C_below (by exact pC HR300_0.out) hb)
            have n9_ := Aside0.mk (below_step (by exact pB HB.out) hb)
            have n10_ := Aside0.mk (hbox)
            have n11_ := Aside0.mk ((by rw [hg]; exact (below_size (by exact pB HB.out)) : w.heap.size ≤ gb308))
            have n12_ := Aside0.mk ((by rw [hg]; exact (below_size (by exact pB HB.out)) : w.heap.size ≤ gb308))
            have n13_ := Aside0.mk ((by rw [hg]; exact Nat.ne_of_lt (blk_lt (g := gb299) (o := .cells #[.slice Ao14 x300000_1.length co14, .slice Ao15 x300001_1.length co15] 24 (0, 0)) (by exact pK BK299.out)) : gb299 ≠ gb308))
            have n14_ := Aside0.mk ((by rw [hg]; exact Nat.ne_of_gt (blk_lt (g := gb299) (o := .cells #[.slice Ao14 x300000_1.length co14, .slice Ao15 x300001_1.length co15] 24 (0, 0)) (by exact pK BK299.out)) : gb308 ≠ gb299))
            clear HO_0
            clear HO_1
            clear HO_300000
            clear HO_300001
            clear HL300_0
            clear HO303
            clear HO306
            clear BK299
            clear HR300_0
            clear HB
            have HO_0 := n0_
            have HO_1 := n1_
            have HO_300000 := n2_
            have HO_300001 := n3_
            have HL300_0 := n4_
            have HO303 := n5_
            have HO306 := n6_
            have BK299 := n7_
            have HR300_0 := n8_
            have HB := n9_
            have BK308 := n10_
            have GW308 := n11_
            have GE308 := n12_
            have NB299_308 := n13_
            have NB308_299 := n14_
            clear n0_ n1_ n2_ n3_ n4_ n5_ n6_ n7_ n8_ n9_ n10_ n11_ n12_ n13_ n14_
            clear hb hbox hg
            refine hK.out _ _ ⟨(blk_cell BK299.out 0).trans rfl, (blk_cell BK299.out 1).trans rfl, HS2_⟩ (fun hHeld => ?_)
            clear hK K
            refine norm_ (a' := ?_) ?_ ?_
            rotate_left
            · show Act.put _ (some 9) _ = _
              simp only [Act.put, List.setIfInBounds_toArray, List.set_cons_zero, List.set_cons_succ, i64_w, i32_w]
              rfl
            exact norm_ (by simp only [putAll, Act.put, List.setIfInBounds_toArray, List.set_cons_zero, List.set_cons_succ]) (hCont (v302, v305, gb308) _ ⟨hHeld, (by exact pV (Kd.V_mono HL300_0.out (fun _ hk => ⟨hk.1.1.2, ⟨hk.1.2, ⟨hk.1.1.1.2, ⟨hk.1.1.1.1.1, ⟨hk.1.1.1.1.2.1, ⟨hk.1.1.1.1.2.2.1, ⟨hk.1.1.1.1.2.2.2, hk.2⟩⟩⟩⟩⟩⟩⟩))), (by exact pR (Kd.R_mono HO303.out (fun _ hk => ⟨hk.1.1, ⟨hk.1.2, hk.2⟩⟩))), (by exact pR (Kd.R_mono HO306.out (fun _ hk => ⟨hk.1.1, ⟨hk.1.2, hk.2⟩⟩))), (by exact pN (Kd.N_mono HO_0.out (fun _ hk => ⟨hk.1.1.2, ⟨hk.1.2, ⟨hk.1.1.1.1, ⟨hk.1.1.1.2.1, ⟨hk.1.1.1.2.2.1, ⟨hk.1.1.1.2.2.2, hk.2⟩⟩⟩⟩⟩⟩))), (by exact pN (Kd.N_mono HO_1.out (fun _ hk => ⟨hk.1.1.2, ⟨hk.1.2, ⟨hk.1.1.1.1, ⟨hk.1.1.1.2.1, ⟨hk.1.1.1.2.2.1, ⟨hk.1.1.1.2.2.2, hk.2⟩⟩⟩⟩⟩⟩))), (by exact pR (Kd.R_mono HO_300000.out (fun _ hk => ⟨hk.1.2, ⟨hk.2, hk.1.1⟩⟩))), (by exact pR (Kd.R_mono HO_300001.out (fun _ hk => ⟨hk.1.2, ⟨hk.2, hk.1.1⟩⟩))), (by exact pK BK299.out), (by exact pK BK308.out), GW308.out, GE308.out, NB299_308.out, NB308_299.out, (by exact pB HB.out)⟩)
          · skip
            refine box_step ?hg (N := 9) ?hd (cs := #[.slice none 0 0, .slice none 0 0]) (t := 24) ?hr ?_; (case hd => rfl); (case hg => rfl); (case hr => first | (go_simp; done) | (go_simp; rfl))
            intro gb308 hg w17 hbox hb
            have HS2_ := (hb.cell (World.block_lt_of_cell? _ _ (hHeld.2.2))).trans (hHeld.2.2)
            have n0_ := Aside0.mk (Kd.N_below (Kd.N_elderB (by exact pN HO_0.out) gb308 (Nat.le_of_eq hg.symm)) hb)
            have n1_ := Aside0.mk (Kd.N_below (Kd.N_elderB (by exact pN HO_1.out) gb308 (Nat.le_of_eq hg.symm)) hb)
            have n2_ := Aside0.mk (Kd.R_below (by exact pR HO_300000.out) hb)
            have n3_ := Aside0.mk (Kd.R_below (by exact pR HO_300001.out) hb)
            have n4_ := Aside0.mk (Kd.V_below (Kd.V_elderB (by exact pV HL300_0.out) gb308 (Nat.le_of_eq hg.symm)) hb)
            have n5_ := Aside0.mk (blk_below (g := gb299) (o := .cells #[.slice Ao14 x300000_1.length co14, .slice Ao15 x300001_1.length co15] 24 (0, 0)) (by exact pK BK299.out) hb)
            have n6_ := Aside0.mk (Kd.C_below (by exact pC HR300_0.out) hb)
            have n7_ := Aside0.mk (below_step (by exact pB HB.out) hb)
            have n8_ := Aside0.mk (hbox)
            have n9_ := Aside0.mk ((by rw [hg]; exact (below_size (by exact pB HB.out)) : w.heap.size ≤ gb308))
            have n10_ := Aside0.mk ((by rw [hg]; exact (below_size (by exact pB HB.out)) : w.heap.size ≤ gb308))
            have n11_ := Aside0.mk ((by rw [hg]; exact Nat.ne_of_lt (blk_lt (g := gb299) (o := .cells #[.slice Ao14 x300000_1.length co14, .slice Ao15 x300001_1.length co15] 24 (0, 0)) (by exact pK BK299.out)) : gb299 ≠ gb308))
            have n12_ := Aside0.mk ((by rw [hg]; exact Nat.ne_of_gt (blk_lt (g := gb299) (o := .cells #[.slice Ao14 x300000_1.length co14, .slice Ao15 x300001_1.length co15] 24 (0, 0)) (by exact pK BK299.out)) : gb308 ≠ gb299))
            clear HO_0
            clear HO_1
            clear HO_300000
            clear HO_300001
            clear HL300_0
            clear BK299
            clear HR300_0
            clear HB
            have HO_0 := n0_
            have HO_1 := n1_
            have HO_300000 := n2_
            have HO_300001 := n3_
            have HL300_0 := n4_
            have BK299 := n5_
            have HR300_0 := n6_
            have HB := n7_
            have BK308 := n8_
            have GW308 := n9_
            have GE308 := n10_
            have NB299_308 := n11_
            have NB308_299 := n12_
            clear n0_ n1_ n2_ n3_ n4_ n5_ n6_ n7_ n8_ n9_ n10_ n11_ n12_
            clear hb hbox hg
            refine hK.out _ _ ⟨(blk_cell BK299.out 0).trans rfl, (blk_cell BK299.out 1).trans rfl, HS2_⟩ (fun hHeld => ?_)
            clear hK K
            refine norm_ (a' := ?_) ?_ ?_
            rotate_left
            · show Act.put _ (some 9) _ = _
              simp only [Act.put, List.setIfInBounds_toArray, List.set_cons_zero, List.set_cons_succ, i64_w, i32_w]
              rfl
            refine one_ (i := 5) (N := some 41) #[true, true, true, true, true, true, false, false, false, true, false, false] rfl rfl (one_of HT_.out (by kernel_rfl)) (by decide) (fun K hK => ?_)
            refine goes_ Try.func36 (by kernel_rfl) rfl #[.agg #[.slice Ao14 x300000_1.length co14, .slice Ao15 x300001_1.length co15], .slice A300_0 (rd_L1 t293 x8_1).length c300_0] (by rfl) rfl rfl (by (try simp only [List.map_toArray, List.map_cons, List.map_nil]); first | done | rfl | (simp only [List.length_drop, List.length_take]; rfl)) ?_
            with_reducible refine (journal_Append.calls k1 _ _ x300000_1 _ _ x300001_1 _ _ (rd_L1 t293 x8_1) t301 t304 t307 _ ?side1 ?side2 ?side3 ?side4 ?side5 ?side6 A11.out).mono ?_
            (case side1 => exact pC (Kd.R_reads' HO_300000.out).2.2)
            (case side2 => exact (Kd.R_reads' HO_300000.out).2.1)
            (case side3 => exact pC (Kd.R_reads' HO_300001.out).2.2)
            (case side4 => exact (Kd.R_reads' HO_300001.out).2.1)
            (case side5 => exact pC (by exact pC HR300_0.out))
            (case side6 => exact HC300_0.out)
            rintro e w18 ⟨v302, v305, rfl, ho0, ho1, hb⟩
            have HS2_ := (hb.cell (World.block_lt_of_cell? _ _ (hHeld.2.2))).trans (hHeld.2.2)
            refine ⟨_, rfl, ?_⟩
            have n0_ := Aside0.mk (Kd.N_mono (Kd.N_told (Kd.N_told (Kd.N_old (by exact pN HO_0.out) hb) (Kd.R_base ho0)) (Kd.R_base ho1)) (fun _ h_ => h_.1))
            have n1_ := Aside0.mk (Kd.N_mono (Kd.N_told (Kd.N_told (Kd.N_old (by exact pN HO_1.out) hb) (Kd.R_base ho0)) (Kd.R_base ho1)) (fun _ h_ => h_.1))
            have n2_ := Aside0.mk (Kd.R_mono (Kd.R_told (Kd.R_told (Kd.R_old (by exact pR HO_300000.out) hb) (Kd.R_base ho0)) (Kd.R_base ho1)) (fun _ h_ => h_.1))
            have n3_ := Aside0.mk (Kd.R_mono (Kd.R_told (Kd.R_told (Kd.R_old (by exact pR HO_300001.out) hb) (Kd.R_base ho0)) (Kd.R_base ho1)) (fun _ h_ => h_.1))
            have n4_ := Aside0.mk (Kd.V_mono (Kd.V_told (Kd.V_told (Kd.V_old (by exact pV HL300_0.out) hb) (Kd.R_base ho0)) (Kd.R_base ho1)) (fun _ h_ => h_.1))
            have n5_ := Aside0.mk (Kd.R_lower (Kd.R_new' (Kd.R_new' ho0 (Kd.R_lt (by exact pR HO_300000.out))) (Kd.R_lt (by exact pR HO_300001.out))) (below_size (by exact pB HB.out)))
            have n6_ := Aside0.mk (Kd.R_lower (Kd.R_new' (Kd.R_new' ho1 (Kd.R_lt (by exact pR HO_300000.out))) (Kd.R_lt (by exact pR HO_300001.out))) (below_size (by exact pB HB.out)))
            have n7_ := Aside0.mk (blk_below (g := gb299) (o := .cells #[.slice Ao14 x300000_1.length co14, .slice Ao15 x300001_1.length co15] 24 (0, 0)) (by exact pK BK299.out) hb)
            have n8_ := Aside0.mk (Kd.C_below (by exact pC HR300_0.out) hb)
            have n9_ := Aside0.mk (blk_below (g := gb308) (o := .cells #[.slice none 0 0, .slice none 0 0] 24 (0, 0)) (by exact pK BK308.out) hb)
            have n10_ := Aside0.mk (below_step (by exact pB HB.out) hb)
            clear HO_0
            clear HO_1
            clear HO_300000
            clear HO_300001
            clear HL300_0
            clear BK299
            clear HR300_0
            clear BK308
            clear HB
            have HO_0 := n0_
            have HO_1 := n1_
            have HO_300000 := n2_
            have HO_300001 := n3_
            have HL300_0 := n4_
            have HO303 := n5_
            have HO306 := n6_
            have BK299 := n7_
            have HR300_0 := n8_
            have BK308 := n9_
            have HB := n10_
            clear n0_ n1_ n2_ n3_ n4_ n5_ n6_ n7_ n8_ n9_ n10_
            (try clear hb)
            (try clear hb2)
            (try clear hk)
            (try clear hi)
            (try clear ho0)
            (try clear ho1)
            refine hK.out _ _ ⟨(blk_cell BK299.out 0).trans rfl, (blk_cell BK299.out 1).trans rfl, HS2_⟩ (fun hHeld => ?_)
            clear hK K
            refine norm_ (a' := ?_) ?_ ?_
            rotate_left
            · show Act.put _ (some 41) _ = _
              simp only [Act.put, List.setIfInBounds_toArray, List.set_cons_zero, List.set_cons_succ, i64_w, i32_w]
              rfl
            refine pure_ (i := 6) (N := some 35) (v := ?_) (a' := ?_) #[true, true, true, true, true, true, true, false, false, true, false, false] rfl rfl (any_of HT_.out (by kernel_rfl)) (fun _ _ _ h => h) (Or.inl ⟨by rfl, ?_⟩) ?_ ?_
            rotate_left
            · intro w'
              go_simp
              with_reducible rfl
            rotate_left
            · simp only [Act.put, List.setIfInBounds_toArray, List.set_cons_zero, List.set_cons_succ, i64_w, i32_w]
              rfl
            refine pure_ (i := 7) (N := some 42) (v := ?_) (a' := ?_) #[true, true, true, true, true, true, true, true, false, true, false, false] rfl rfl (any_of HT_.out (by kernel_rfl)) (fun _ _ _ h => h) (Or.inl ⟨by rfl, ?_⟩) ?_ ?_
            rotate_left
            · intro w'
              go_simp
              with_reducible rfl
            rotate_left
            · simp only [Act.put, List.setIfInBounds_toArray, List.set_cons_zero, List.set_cons_succ, i64_w, i32_w]
              rfl
            refine pure_ (i := 8) (N := some 43) (v := ?_) (a' := ?_) #[true, true, true, true, true, true, true, true, true, true, false, false] rfl rfl (any_of HT_.out (by kernel_rfl)) (fun _ _ _ h => h) (Or.inl ⟨by rfl, ?_⟩) ?_ ?_
            rotate_left
            · intro w'
              go_simp
              with_reducible rfl
            rotate_left
            · simp only [Act.put, List.setIfInBounds_toArray, List.set_cons_zero, List.set_cons_succ, i64_w, i32_w]
              rfl
            exact norm_ (by simp only [putAll, Act.put, List.setIfInBounds_toArray, List.set_cons_zero, List.set_cons_succ]) (hCont (v302, v305, gb308) _ ⟨hHeld, (by exact pV (Kd.V_mono HL300_0.out (fun _ hk => ⟨hk.1.2, ⟨hk.2, ⟨hk.1.1.1.2, ⟨hk.1.1.1.1.1, ⟨hk.1.1.1.1.2.1, ⟨hk.1.1.1.1.2.2.1, ⟨hk.1.1.1.1.2.2.2, hk.1.1.2⟩⟩⟩⟩⟩⟩⟩))), (by exact pR (Kd.R_mono HO303.out (fun _ hk => ⟨hk.1.1, ⟨hk.1.2, hk.2⟩⟩))), (by exact pR (Kd.R_mono HO306.out (fun _ hk => ⟨hk.1.1, ⟨hk.1.2, hk.2⟩⟩))), (by exact pN (Kd.N_mono HO_0.out (fun _ hk => ⟨hk.1.2, ⟨hk.2, ⟨hk.1.1.1.1, ⟨hk.1.1.1.2.1, ⟨hk.1.1.1.2.2.1, ⟨hk.1.1.1.2.2.2, hk.1.1.2⟩⟩⟩⟩⟩⟩))), (by exact pN (Kd.N_mono HO_1.out (fun _ hk => ⟨hk.1.2, ⟨hk.2, ⟨hk.1.1.1.1, ⟨hk.1.1.1.2.1, ⟨hk.1.1.1.2.2.1, ⟨hk.1.1.1.2.2.2, hk.1.1.2⟩⟩⟩⟩⟩⟩))), (by exact pR (Kd.R_mono HO_300000.out (fun _ hk => ⟨hk.1.2, ⟨hk.2, hk.1.1⟩⟩))), (by exact pR (Kd.R_mono HO_300001.out (fun _ hk => ⟨hk.1.2, ⟨hk.2, hk.1.1⟩⟩))), (by exact pK BK299.out), (by exact pK BK308.out), GW308.out, GE308.out, NB299_308.out, NB308_299.out, (by exact pB HB.out)⟩)
        rintro ⟨v302, v305, gb308⟩ w19 ⟨hS_, h0_, h1_, h2_, h3_, h4_, h5_, h6_, h7_, h8_, h9_, h10_, h11_, h12_, h13_⟩
        have n0_ : Aside0 (Kd.V (Kd.int .u8) 5 w19 w.heap.size (fun k_ => some k_ ≠ (v302 : Value).ownBlock ∧ some k_ ≠ (v305 : Value).ownBlock ∧ some k_ ≠ (.slice (some ad300) t293.length co13 : Value).ownBlock ∧ some k_ ≠ (v297 : Value).ownBlock ∧ some k_ ≠ (.slice Ao14 x300000_1.length co14 : Value).ownBlock ∧ some k_ ≠ (.slice Ao15 x300001_1.length co15 : Value).ownBlock ∧ k_ ≠ gb299 ∧ k_ ≠ gb308) (.slice A300_0 (rd_L1 t293 x8_1).length c300_0) (rd_L1 t293 x8_1)) := ⟨h0_⟩
        have n1_ : Aside0 (Kd.R (Kd.int .u8) 5 w19 w.heap.size (fun k_ => some k_ ≠ (v305 : Value).ownBlock ∧ some k_ ≠ (.slice Ao14 x300000_1.length co14 : Value).ownBlock ∧ some k_ ≠ (.slice Ao15 x300001_1.length co15 : Value).ownBlock) v302 t301) := ⟨h1_⟩
        have n2_ : Aside0 (Kd.R (Kd.int .u8) 5 w19 w.heap.size (fun k_ => some k_ ≠ (v302 : Value).ownBlock ∧ some k_ ≠ (.slice Ao14 x300000_1.length co14 : Value).ownBlock ∧ some k_ ≠ (.slice Ao15 x300001_1.length co15 : Value).ownBlock) v305 t304) := ⟨h2_⟩
        have n3_ : Aside0 (Kd.N (Kd.slice 5 (Kd.int .u8)) 22 w19 w.heap.size (fun k_ => some k_ ≠ (v302 : Value).ownBlock ∧ some k_ ≠ (v305 : Value).ownBlock ∧ some k_ ≠ (v297 : Value).ownBlock ∧ some k_ ≠ (.slice Ao14 x300000_1.length co14 : Value).ownBlock ∧ some k_ ≠ (.slice Ao15 x300001_1.length co15 : Value).ownBlock ∧ k_ ≠ gb299 ∧ k_ ≠ gb308) (.slice (some ad300) t293.length co13) t293) := ⟨h3_⟩
        have n4_ : Aside0 (Kd.N (Kd.slice 5 (Kd.int .u8)) 22 w19 w.heap.size (fun k_ => some k_ ≠ (v302 : Value).ownBlock ∧ some k_ ≠ (v305 : Value).ownBlock ∧ some k_ ≠ (.slice (some ad300) t293.length co13 : Value).ownBlock ∧ some k_ ≠ (.slice Ao14 x300000_1.length co14 : Value).ownBlock ∧ some k_ ≠ (.slice Ao15 x300001_1.length co15 : Value).ownBlock ∧ k_ ≠ gb299 ∧ k_ ≠ gb308) v297 t296) := ⟨h4_⟩
        have n5_ : Aside0 (Kd.R (Kd.int .u8) 5 w19 w.heap.size (fun k_ => some k_ ≠ (v302 : Value).ownBlock ∧ some k_ ≠ (v305 : Value).ownBlock ∧ some k_ ≠ (.slice Ao15 x300001_1.length co15 : Value).ownBlock) (.slice Ao14 x300000_1.length co14) x300000_1) := ⟨h5_⟩
        have n6_ : Aside0 (Kd.R (Kd.int .u8) 5 w19 w.heap.size (fun k_ => some k_ ≠ (v302 : Value).ownBlock ∧ some k_ ≠ (v305 : Value).ownBlock ∧ some k_ ≠ (.slice Ao14 x300000_1.length co14 : Value).ownBlock) (.slice Ao15 x300001_1.length co15) x300001_1) := ⟨h6_⟩
        have n7_ : Aside0 (w19.heap[gb299]? = some (.cells #[.slice Ao14 x300000_1.length co14, .slice Ao15 x300001_1.length co15] 24 (0, 0))) := ⟨h7_⟩
        have n8_ : Aside0 (w19.heap[gb308]? = some (.cells #[.slice none 0 0, .slice none 0 0] 24 (0, 0))) := ⟨h8_⟩
        have n9_ : Aside0 (w.heap.size ≤ gb308) := ⟨h9_⟩
        have n10_ : Aside0 (w.heap.size ≤ gb308) := ⟨h10_⟩
        have n11_ : Aside0 (gb299 ≠ gb308) := ⟨h11_⟩
        have n12_ : Aside0 (gb308 ≠ gb299) := ⟨h12_⟩
        have n13_ : Aside0 (Below w.heap.size w w19) := ⟨h13_⟩
        clear HO_0
        clear HO_1
        clear HO_300000
        clear HO_300001
        clear BK299
        clear HB
        clear h0_ h1_ h2_ h3_ h4_ h5_ h6_ h7_ h8_ h9_ h10_ h11_ h12_ h13_
        have HL300_0 := n0_
        have HO303 := n1_
        have HO306 := n2_
        have HO_0 := n3_
        have HO_1 := n4_
        have HO_300000 := n5_
        have HO_300001 := n6_
        have BK299 := n7_
        have BK308 := n8_
        have GW308 := n9_
        have GE308 := n10_
        have NB299_308 := n11_
        have NB308_299 := n12_
        have HB := n13_
        clear n0_ n1_ n2_ n3_ n4_ n5_ n6_ n7_ n8_ n9_ n10_ n11_ n12_ n13_
        have hHeld : w19.cell? ⟨gb299, 0, none⟩ = some (.slice Ao14 x300000_1.length co14) ∧ w19.cell? ⟨gb299, 1, none⟩ = some (.slice Ao15 x300001_1.length co15) ∧ w19.cell? (ad300.add (x8_1).toNat) = some (.slice A300_0 (rd_L1 t293 x8_1).length c300_0) := hS_
        obtain ⟨Ao20, co20, eo20⟩ := Kd.R_slice HO303.out
        (first | subst eo20 | (injection eo20 with f1_ f2_ f3_; have f4_ := f1_.symm; have f5_ := f3_.symm; clear f1_ f2_ f3_; subst f4_; subst f5_))
        obtain ⟨Ao22, co22, eo22⟩ := Kd.R_slice HO306.out
        (first | subst eo22 | (injection eo22 with f1_ f2_ f3_; have f4_ := f1_.symm; have f5_ := f3_.symm; clear f1_ f2_ f3_; subst f4_; subst f5_))
        refine norm_ (a' := ?_) ?_ ?_
        rotate_left
        · simp only [putAll, Act.put, List.setIfInBounds_toArray, List.set_cons_zero, List.set_cons_succ]
          rfl
        refine one_ (i := 10) (N := none) #[true, true, true, true, true, true, true, true, true, true, true, false] rfl rfl (one_of HT_.out (by kernel_rfl)) (by decide) (fun K hK => ?_)
        have hs21 : w19.cell? ⟨gb308, 0, none⟩ = some (.slice none 0 0) := (blk_cell BK308.out 0).trans rfl
        have hfs21 := blk_frozen BK308.out 0
        have hns21_0 := NB299_308.out
        have hms21_0 := NB308_299.out
        have hs23 : w19.cell? ⟨gb308, 1, none⟩ = some (.slice none 0 0) := (blk_cell BK308.out 1).trans rfl
        have hfs23 := blk_frozen BK308.out 1
        have hns23_0 := NB299_308.out
        have hms23_0 := NB308_299.out
        refine skip_ (w1 := ?_) (by rfl) rfl ?_ ?_
        rotate_left
        · go_simp
          rfl
        refine hK.out _ _ ⟨((cell_far (p := ⟨gb308, _, none⟩) NB299_308.out _).trans (((cell_far (p := ⟨gb308, _, none⟩) NB299_308.out _).trans (hHeld.1)))), ((cell_far (p := ⟨gb308, _, none⟩) NB299_308.out _).trans (((cell_far (p := ⟨gb308, _, none⟩) NB299_308.out _).trans (hHeld.2.1)))), ((cell_far (p := ⟨gb308, _, none⟩) (by first | exact Kd.own_blk (Kd.N_away HO_0.out (fun _ hk => hk.2.2.2.2.2.2)) | (rw [add_block]; exact Kd.own_blk (Kd.N_away HO_0.out (fun _ hk => hk.2.2.2.2.2.2))) | (show (Addr.add _ _).block ≠ _; rw [add_block]; exact Kd.own_blk (Kd.N_away HO_0.out (fun _ hk => hk.2.2.2.2.2.2))) | (dsimp only; exact Kd.own_blk (Kd.N_away HO_0.out (fun _ hk => hk.2.2.2.2.2.2)))) _).trans (((cell_far (p := ⟨gb308, _, none⟩) (by first | exact Kd.own_blk (Kd.N_away HO_0.out (fun _ hk => hk.2.2.2.2.2.2)) | (rw [add_block]; exact Kd.own_blk (Kd.N_away HO_0.out (fun _ hk => hk.2.2.2.2.2.2))) | (show (Addr.add _ _).block ≠ _; rw [add_block]; exact Kd.own_blk (Kd.N_away HO_0.out (fun _ hk => hk.2.2.2.2.2.2))) | (dsimp only; exact Kd.own_blk (Kd.N_away HO_0.out (fun _ hk => hk.2.2.2.2.2.2)))) _).trans (hHeld.2.2))))⟩ (fun hHeld => ?_)
        clear hK K
        refine pure_ (i := 11) (N := some 10) (v := ?_) (a' := ?_) #[true, true, true, true, true, true, true, true, true, true, true, true] rfl rfl (any_of HT_.out (by kernel_rfl)) (fun _ _ _ h => h) (Or.inl ⟨by rfl, ?_⟩) ?_ ?_
        rotate_left
        · intro w'
          go_simp
          with_reducible rfl
        rotate_left
        · simp only [Act.put, List.setIfInBounds_toArray, List.set_cons_zero, List.set_cons_succ, i64_w, i32_w]
          rfl
        refine done_ (done_of HT_.out (by kernel_rfl)) ?_
        have hnb24 := NB308_299.out
        have hnc24 := NB299_308.out
        have hcz25_0 : w19.cell? ⟨gb308, 0, none⟩ = some (.slice none 0 0) := (blk_cell BK308.out 0).trans rfl
        have hcz25_1 : w19.cell? ⟨gb308, 1, none⟩ = some (.slice none 0 0) := (blk_cell BK308.out 1).trans rfl
        have hfz25_0 := blk_frozen BK308.out 0
        have hfz25_1 := blk_frozen BK308.out 1
        have hcz26_0 : w19.cell? ⟨gb299, 0, none⟩ = some (.slice Ao14 x300000_1.length co14) := (blk_cell BK299.out 0).trans rfl
        have hcz26_1 : w19.cell? ⟨gb299, 1, none⟩ = some (.slice Ao15 x300001_1.length co15) := (blk_cell BK299.out 1).trans rfl
        have hfz26_0 := blk_frozen BK299.out 0
        have hfz26_1 := blk_frozen BK299.out 1
        try go_wp2
        go_roundg k1
        case measure => have := HK1.out; omega
        case rel => exact ⟨(wrap64 (x8_1 + 1)), (t301), (t304), (.slice Ao20 t301.length co20), (.slice Ao22 t304.length co22), (by first | rfl | (simp; done) | (simp [*]; done)), H', ⟨by have := HK1.out; omega⟩, ⟨by (with_reducible repeat (first | apply Kd.N_alloc | apply Kd.N_drewN | apply Kd.N_drew)); exact Kd.N_mono (Kd.N_far (p := ⟨gb299, 1, none⟩) (Kd.N_far (p := ⟨gb299, 0, none⟩) (Kd.N_far (p := ⟨gb308, 1, none⟩) (Kd.N_far (p := ⟨gb308, 0, none⟩) (Kd.N_mono (Kd.N_mono HO_0.out (fun k_ hk => (⟨hk, hk.2.2.2.2.2.2⟩ : _ ∧ k_ ≠ gb308))) (fun k_ hk => (⟨hk, hk.1.2.2.2.2.2.1⟩ : _ ∧ k_ ≠ gb299))) (fun _ hk => hk.1.2) (.slice Ao20 t301.length co20)) (fun _ hk => hk.1.2) (.slice Ao22 t304.length co22)) (fun _ hk => hk.2) (.slice Ao20 t301.length co20)) (fun _ hk => hk.2) (.slice Ao22 t304.length co22)) (fun _ hk => ⟨hk.1.1.2.2.1, ⟨hk.1.1.1, ⟨hk.1.1.2.1, hk.1.1.2.2.2.2.2.1⟩⟩⟩)⟩, ⟨by (with_reducible repeat (first | apply Kd.N_alloc | apply Kd.N_drewN | apply Kd.N_drew)); exact Kd.N_mono (Kd.N_far (p := ⟨gb299, 1, none⟩) (Kd.N_far (p := ⟨gb299, 0, none⟩) (Kd.N_far (p := ⟨gb308, 1, none⟩) (Kd.N_far (p := ⟨gb308, 0, none⟩) (Kd.N_mono (Kd.N_mono HO_1.out (fun k_ hk => (⟨hk, hk.2.2.2.2.2.2⟩ : _ ∧ k_ ≠ gb308))) (fun k_ hk => (⟨hk, hk.1.2.2.2.2.2.1⟩ : _ ∧ k_ ≠ gb299))) (fun _ hk => hk.1.2) (.slice Ao20 t301.length co20)) (fun _ hk => hk.1.2) (.slice Ao22 t304.length co22)) (fun _ hk => hk.2) (.slice Ao20 t301.length co20)) (fun _ hk => hk.2) (.slice Ao22 t304.length co22)) (fun _ hk => ⟨hk.1.1.2.2.1, ⟨hk.1.1.1, ⟨hk.1.1.2.1, hk.1.1.2.2.2.2.2.1⟩⟩⟩)⟩, ⟨by (with_reducible repeat (first | apply Kd.R_alloc | apply Kd.R_drewN | apply Kd.R_drew)); exact Kd.R_mono (Kd.R_far (p := ⟨gb299, 1, none⟩) (Kd.R_far (p := ⟨gb299, 0, none⟩) (Kd.R_far (p := ⟨gb308, 1, none⟩) (Kd.R_far (p := ⟨gb308, 0, none⟩) (Kd.R_types (Kd.R_types HO303.out BK308.out (by decide)) BK299.out (by decide)) (fun _ hk => hk.1.2) (.slice Ao20 t301.length co20)) (fun _ hk => hk.1.2) (.slice Ao22 t304.length co22)) (fun _ hk => hk.2) (.slice Ao20 t301.length co20)) (fun _ hk => hk.2) (.slice Ao22 t304.length co22)) (fun _ hk => hk.1.1.1)⟩, ⟨by (with_reducible repeat (first | apply Kd.R_alloc | apply Kd.R_drewN | apply Kd.R_drew)); exact Kd.R_mono (Kd.R_far (p := ⟨gb299, 1, none⟩) (Kd.R_far (p := ⟨gb299, 0, none⟩) (Kd.R_far (p := ⟨gb308, 1, none⟩) (Kd.R_far (p := ⟨gb308, 0, none⟩) (Kd.R_types (Kd.R_types HO306.out BK308.out (by decide)) BK299.out (by decide)) (fun _ hk => hk.1.2) (.slice Ao20 t301.length co20)) (fun _ hk => hk.1.2) (.slice Ao22 t304.length co22)) (fun _ hk => hk.2) (.slice Ao20 t301.length co20)) (fun _ hk => hk.2) (.slice Ao22 t304.length co22)) (fun _ hk => hk.1.1.1)⟩, ⟨by (with_reducible repeat (first | refine blk_drewN ?_ _ | refine blk_drew ?_ | refine blk_alloc ?_ _)); refine blk_put (cs := #[.slice Ao20 t301.length co20, .slice Ao15 x300001_1.length co15]) ?_ 1 _ rfl; (with_reducible repeat (first | refine blk_drewN ?_ _ | refine blk_drew ?_ | refine blk_alloc ?_ _)); refine blk_put (cs := #[.slice Ao14 x300000_1.length co14, .slice Ao15 x300001_1.length co15]) ?_ 0 _ rfl; (with_reducible repeat (first | refine blk_drewN ?_ _ | refine blk_drew ?_ | refine blk_alloc ?_ _)); refine blk_far ?_ NB299_308.out _; (with_reducible repeat (first | refine blk_drewN ?_ _ | refine blk_drew ?_ | refine blk_alloc ?_ _)); refine blk_far ?_ NB299_308.out _; (with_reducible repeat (first | refine blk_drewN ?_ _ | refine blk_drew ?_ | refine blk_alloc ?_ _)); exact BK299.out⟩, ⟨by repeat (first | (with_reducible first | exact HB.out | apply below_alloc | apply pw_below_drewN | apply below_drew1 | refine below_set ?_ GE299.out | refine below_set ?_ GE308.out) | exact HB.out)⟩⟩
      · rw [if_neg c9] at H
        have c9b0 : decide (x8_1 < (t293.length : Int)) = false := decide_eq_false c9
        clear c9
        have H' := Aside0.mk H
        clear H
        obtain ⟨Ao27, co27, eo27⟩ := Kd.N_slice HO_0.out
        subst eo27
        go_wp2
        go_loopg [11] k1 (fun kq v11 w' => ∃ (x11_2 : Int) (x300000_2 : List Int) (x300001_2 : List Int) (u300000 : Value) (u300001 : Value), v11 = .int .i64 x11_2 ∧ Aside0 (customslaw34_JournalCrash.l1 kq t293 t296 a2 x11_2 x300000_2 x300001_2 = some true) ∧ Aside0 (kq ≤ k1) ∧ Aside0 (Kd.N (Kd.slice 5 (Kd.int .u8)) 22 w' w.heap.size (fun k_ => some k_ ≠ (v297 : Value).ownBlock ∧ some k_ ≠ (u300000 : Value).ownBlock ∧ some k_ ≠ (u300001 : Value).ownBlock ∧ k_ ≠ gb299) (.slice Ao27 t293.length co27) t293) ∧ Aside0 (Kd.N (Kd.slice 5 (Kd.int .u8)) 22 w' w.heap.size (fun k_ => some k_ ≠ ((.slice Ao27 t293.length co27) : Value).ownBlock ∧ some k_ ≠ (u300000 : Value).ownBlock ∧ some k_ ≠ (u300001 : Value).ownBlock ∧ k_ ≠ gb299) v297 t296) ∧ Aside0 (Kd.R (Kd.int .u8) 5 w' w.heap.size (fun k_ => some k_ ≠ (u300001 : Value).ownBlock) u300000 x300000_2) ∧ Aside0 (Kd.R (Kd.int .u8) 5 w' w.heap.size (fun k_ => some k_ ≠ (u300000 : Value).ownBlock) u300001 x300001_2) ∧ Aside0 (w'.heap[gb299]? = some (.cells #[u300000, u300001] 24 (0, 0))) ∧ Aside0 (Below w.heap.size w w'))
        case atStart => exact ⟨(0), (x300000_1), (x300001_1), (u300000), (u300001), (by first | rfl | (simp; done) | (simp [*]; done)), H', ⟨Nat.le_refl _⟩, ⟨by exact pN HO_0.out⟩, ⟨by exact pN HO_1.out⟩, ⟨by exact pR HO_300000.out⟩, ⟨by exact pR HO_300001.out⟩, ⟨by exact pK BK299.out⟩, ⟨by exact pB HB.out⟩⟩
        case round =>
          clear H'
          try clear c1
          try clear c2
          try clear p2
          try clear c3
          try clear p3
          try clear q3
          try clear hx3
          try clear p6
          try clear c9
          try clear c9b0
          try clear c10
          try clear c10b0
          try clear c12
          try clear c12b0
          try clear c12b1
          try clear c24
          try clear hcz25_0
          try clear hcz25_1
          try clear hcz26_0
          try clear hcz26_1
          try clear hfz25_0
          try clear hfz25_1
          try clear hfz26_0
          try clear hfz26_1
          try clear hx300_0
          try clear p2
          try clear p300
          try clear q300
          obtain ⟨x11_2, x300000_2, x300001_2, u300000, u300001, rfl, HA, HK2, HO_0, HO_1, HO_300000, HO_300001, BK299, HB⟩ := hrel
          cases gk with
          | zero => exact absurd HA.out (by simp [customslaw34_JournalCrash.l1])
          | succ k2 =>
            have H := HA.out
            clear HA
            simp only [customslaw34_JournalCrash.l1] at H
            by_cases c28 : x11_2 < (t296.length : Int)
            · rw [if_pos c28] at H
              have c28b0 : decide (x11_2 < (t296.length : Int)) = true := decide_eq_true c28
              clear c28
              have c29 : 0 ≤ x11_2 := by
                refine Classical.byContradiction fun c29 => ?_
                rw [if_neg c29] at H
                exact absurd H (by simp)
              rw [if_pos c29] at H
              have c29b0 : decide (0 ≤ x11_2) = true := decide_eq_true c29
              clear c29
              replace H := Option.bind_eq_some_iff.mp H
              obtain ⟨⟨t310, t313, t316⟩, A300, H⟩ := H
              replace H : (if t316 = 0 then (customslaw34_JournalCrash.l1 k2 t293 t296 a2 (wrap64 (x11_2 + 1)) t310 t313) else (some false)) = some true := H
              have A30 := Aside0.mk A300
              clear A300
              have c31 : t316 = 0 := by
                refine Classical.byContradiction fun c31 => ?_
                rw [if_neg c31] at H
                exact absurd (Option.some.inj H) (by simp)
              rw [if_pos c31] at H
              have c31b0 : (t316 == 0) = true := beq_iff_eq.mpr c31
              have c31b1 : (t316 != 0) = false := bne_eq_false_iff_eq.mpr c31
              clear c31
              have H' := Aside0.mk H
              clear H
              obtain ⟨Ao32, co32, eo32⟩ := Kd.N_slice HO_1.out
              subst eo32
              obtain ⟨Ao33, co33, eo33⟩ := Kd.R_slice HO_300000.out
              subst eo33
              obtain ⟨Ao34, co34, eo34⟩ := Kd.R_slice HO_300001.out
              subst eo34
              try go_wp2
              have n0_ := Aside0.mk (Kd.N_drew HO_0.out)
              have n1_ := Aside0.mk (Kd.N_drew HO_1.out)
              have n2_ := Aside0.mk (Kd.R_drew HO_300000.out)
              have n3_ := Aside0.mk (Kd.R_drew HO_300001.out)
              have n4_ := Aside0.mk (blk_drew BK299.out)
              have n5_ := Aside0.mk (below_drew1 HB.out)
              clear HO_0
              clear HO_1
              clear HO_300000
              clear HO_300001
              clear BK299
              clear HB
              have HO_0 := n0_
              have HO_1 := n1_
              have HO_300000 := n2_
              have HO_300001 := n3_
              have BK299 := n4_
              have HB := n5_
              clear n0_ n1_ n2_ n3_ n4_ n5_
              have p309 : 0 ≤ (x11_2 : Int) := of_decide_eq_true (by first | (with_reducible assumption) | assumption)
              have q309 : x11_2 < (t296.length : Int) := of_decide_eq_true (by first | (with_reducible assumption) | assumption)
              obtain ⟨ad309, A309_0, c309_0, e309, hx309_0, hl309_0, hi309_0⟩ := at_L1 (Kd.N_reads' HO_1.out).2.2 x11_2 p309 q309
              cases e309
              obtain ⟨ce309, hce309, hMe309, hcc309⟩ := Kd.N_get HO_1.out [] x11_2 p309 (by first | exact q309 | exact of_decide_eq_true (by first | (with_reducible assumption) | assumption) | (have e_ := (Kd.N_reads' HO_1.out).1; omega))
              obtain ⟨ua309_0, uc309_0, rfl, ul309_0, ge309_0⟩ := Kd.FK_slice_open hMe309
              have hv309_0 := hcc309 0 _ rfl
              rw [Nat.add_zero, show ((Kd.slice 5 (Kd.int .u8))).sz = 1 from rfl, Nat.mul_one] at hv309_0
              replace hv309_0 := Option.some.inj (hv309_0.symm.trans hx309_0)
              injection hv309_0 with hva_ hvn_ hvc_
              rw [hva_] at ge309_0
              rw [hvc_] at ul309_0
              have HL309_0 := Aside0.mk (show Kd.V (Kd.int .u8) 5 _ w.heap.size _ _ (rd_L1 t296 x11_2) from Kd.V_mk ul309_0 ge309_0)
              clear hva_ hvn_ hvc_ ge309_0 ul309_0
              clear hcc309 hce309
              have HR309_0 := Aside0.mk hi309_0
              have HC309_0 := Aside0.mk hl309_0
              clear hi309_0 hl309_0
              replace p309 := eq_true p309
              replace q309 := eq_true q309
              refine start_ (n := 13) (S := fun w' => w'.cell? ⟨gb299, 0, none⟩ = some (.slice Ao33 x300000_2.length co33) ∧ w'.cell? ⟨gb299, 1, none⟩ = some (.slice Ao34 x300001_2.length co34) ∧ w'.cell? (ad309.add (x11_2).toNat) = some (.slice A309_0 (rd_L1 t296 x11_2).length c309_0)) (ds := []) #[false, false, false, false, false, false, false, false, false, false, false, false, false] (by kernel_rfl) rfl rfl ⟨(blk_cell BK299.out 0).trans rfl, (blk_cell BK299.out 1).trans rfl, hx309_0⟩ (fun hHeld => ?_); refine with_tabW customslaw34_JournalCrash.tab13 customslaw34_JournalCrash.bits13 (fun HT_ HW_ => ?_)
              generalize wr.drew = w35 at HO_0 HO_1 HO_300000 HO_300001 BK299 HB HL309_0 HR309_0 hx309_0 hHeld ⊢
              refine pure_ (i := 1) (N := some 55) (v := ?_) (a' := ?_) #[false, true, false, false, false, false, false, false, false, false, false, false, false] rfl rfl (any_of HT_.out (by kernel_rfl)) (fun _ _ _ h => h) (Or.inl ⟨by rfl, ?_⟩) ?_ ?_
              rotate_left
              · intro w'
                go_simp
                with_reducible rfl
              rotate_left
              · simp only [Act.put, List.setIfInBounds_toArray, List.set_cons_zero, List.set_cons_succ, i64_w, i32_w]
                rfl
              refine pure_ (i := 2) (N := some 56) (v := ?_) (a' := ?_) #[false, true, true, false, false, false, false, false, false, false, false, false, false] rfl rfl (any_of HT_.out (by kernel_rfl)) (fun _ _ _ h => h) (Or.inl ⟨by rfl, ?_⟩) ?_ ?_
              rotate_left
              · intro w'
                go_simp
                with_reducible rfl
              rotate_left
              · simp only [Act.put, List.setIfInBounds_toArray, List.set_cons_zero, List.set_cons_succ, i64_w, i32_w]
                rfl
              refine pure_ (i := 3) (N := some 57) (v := ?_) (a' := ?_) #[false, true, true, true, false, false, false, false, false, false, false, false, false] rfl rfl (any_of HT_.out (by kernel_rfl)) (fun _ _ _ h => h) (Or.inl ⟨by rfl, ?_⟩) ?_ ?_
              rotate_left
              · intro w'
                go_simp
                with_reducible rfl
              rotate_left
              · simp only [Act.put, List.setIfInBounds_toArray, List.set_cons_zero, List.set_cons_succ, i64_w, i32_w]
                rfl
              refine take_ (i := 0) (N := some 54) (v := ?_) (a' := ?_) #[true, true, true, true, false, false, false, false, false, false, false, false, false] rfl rfl (take_ofW HT_.out HW_.out (by kernel_rfl)) (fun _ _ _ h => h) (Or.inl ⟨by rfl, ?_⟩) hHeld ?_ ?_
              rotate_left
              · rintro w' ⟨s0, s1, s2⟩
                go_simp
                with_reducible rfl
              rotate_left
              · simp only [Act.put, List.setIfInBounds_toArray, List.set_cons_zero, List.set_cons_succ, i64_w, i32_w]
                rfl
              refine take_ (i := 4) (N := some 58) (v := ?_) (a' := ?_) #[true, true, true, true, true, false, false, false, false, false, false, false, false] rfl rfl (take_ofW HT_.out HW_.out (by kernel_rfl)) (fun _ _ _ h => h) (Or.inl ⟨by rfl, ?_⟩) hHeld ?_ ?_
              rotate_left
              · rintro w' ⟨s0, s1, s2⟩
                go_simp
                with_reducible rfl
              rotate_left
              · simp only [Act.put, List.setIfInBounds_toArray, List.set_cons_zero, List.set_cons_succ, i64_w, i32_w]
                rfl
              refine pure_ (i := 5) (N := some 59) (v := ?_) (a' := ?_) #[true, true, true, true, true, true, false, false, false, false, false, false, false] rfl rfl (any_of HT_.out (by kernel_rfl)) (fun _ _ _ h => h) (Or.inl ⟨by rfl, ?_⟩) ?_ ?_
              rotate_left
              · intro w'
                go_simp
                with_reducible rfl
              rotate_left
              · simp only [Act.put, List.setIfInBounds_toArray, List.set_cons_zero, List.set_cons_succ, i64_w, i32_w]
                rfl
              refine join_ (σ := Value × Value × Nat) 2 #[true, true, true, true, true, true, true, true, true, true, true, false, false] (fun s_ => [(60, .tuple #[.agg #[s_.1, s_.2.1], .int .i64 t316]), (12, .pointer (some ⟨s_.2.2, 0, none⟩)), (53, .tuple #[.agg #[s_.1, s_.2.1], .int .i64 t316]), (61, .agg #[s_.1, s_.2.1]), (62, .int .i64 t316)]) (fun s_ w' => (w'.cell? ⟨gb299, 0, none⟩ = some (.slice Ao33 x300000_2.length co33) ∧ w'.cell? ⟨gb299, 1, none⟩ = some (.slice Ao34 x300001_2.length co34) ∧ w'.cell? (ad309.add (x11_2).toNat) = some (.slice A309_0 (rd_L1 t296 x11_2).length c309_0)) ∧ (Kd.V (Kd.int .u8) 5 w' w.heap.size (fun k_ => some k_ ≠ (s_.1 : Value).ownBlock ∧ some k_ ≠ (s_.2.1 : Value).ownBlock ∧ some k_ ≠ (.slice Ao27 t293.length co27 : Value).ownBlock ∧ some k_ ≠ (.slice (some ad309) t296.length co32 : Value).ownBlock ∧ some k_ ≠ (.slice Ao33 x300000_2.length co33 : Value).ownBlock ∧ some k_ ≠ (.slice Ao34 x300001_2.length co34 : Value).ownBlock ∧ k_ ≠ gb299 ∧ k_ ≠ s_.2.2) (.slice A309_0 (rd_L1 t296 x11_2).length c309_0) (rd_L1 t296 x11_2)) ∧ (Kd.R (Kd.int .u8) 5 w' w.heap.size (fun k_ => some k_ ≠ (s_.2.1 : Value).ownBlock ∧ some k_ ≠ (.slice Ao33 x300000_2.length co33 : Value).ownBlock ∧ some k_ ≠ (.slice Ao34 x300001_2.length co34 : Value).ownBlock) s_.1 t310) ∧ (Kd.R (Kd.int .u8) 5 w' w.heap.size (fun k_ => some k_ ≠ (s_.1 : Value).ownBlock ∧ some k_ ≠ (.slice Ao33 x300000_2.length co33 : Value).ownBlock ∧ some k_ ≠ (.slice Ao34 x300001_2.length co34 : Value).ownBlock) s_.2.1 t313) ∧ (Kd.N (Kd.slice 5 (Kd.int .u8)) 22 w' w.heap.size (fun k_ => some k_ ≠ (s_.1 : Value).ownBlock ∧ some k_ ≠ (s_.2.1 : Value).ownBlock ∧ some k_ ≠ (.slice (some ad309) t296.length co32 : Value).ownBlock ∧ some k_ ≠ (.slice Ao33 x300000_2.length co33 : Value).ownBlock ∧ some k_ ≠ (.slice Ao34 x300001_2.length co34 : Value).ownBlock ∧ k_ ≠ gb299 ∧ k_ ≠ s_.2.2) (.slice Ao27 t293.length co27) t293) ∧ (Kd.N (Kd.slice 5 (Kd.int .u8)) 22 w' w.heap.size (fun k_ => some k_ ≠ (s_.1 : Value).ownBlock ∧ some k_ ≠ (s_.2.1 : Value).ownBlock ∧ some k_ ≠ (.slice Ao27 t293.length co27 : Value).ownBlock ∧ some k_ ≠ (.slice Ao33 x300000_2.length co33 : Value).ownBlock ∧ some k_ ≠ (.slice Ao34 x300001_2.length co34 : Value).ownBlock ∧ k_ ≠ gb299 ∧ k_ ≠ s_.2.2) (.slice (some ad309) t296.length co32) t296) ∧ (Kd.R (Kd.int .u8) 5 w' w.heap.size (fun k_ => some k_ ≠ (s_.1 : Value).ownBlock ∧ some k_ ≠ (s_.2.1 : Value).ownBlock ∧ some k_ ≠ (.slice Ao34 x300001_2.length co34 : Value).ownBlock) (.slice Ao33 x300000_2.length co33) x300000_2) ∧ (Kd.R (Kd.int .u8) 5 w' w.heap.size (fun k_ => some k_ ≠ (s_.1 : Value).ownBlock ∧ some k_ ≠ (s_.2.1 : Value).ownBlock ∧ some k_ ≠ (.slice Ao33 x300000_2.length co33 : Value).ownBlock) (.slice Ao34 x300001_2.length co34) x300001_2) ∧ (w'.heap[gb299]? = some (.cells #[.slice Ao33 x300000_2.length co33, .slice Ao34 x300001_2.length co34] 24 (0, 0))) ∧ (w'.heap[s_.2.2]? = some (.cells #[.slice none 0 0, .slice none 0 0] 24 (0, 0))) ∧ (w.heap.size ≤ s_.2.2) ∧ (w.heap.size ≤ s_.2.2) ∧ (gb299 ≠ s_.2.2) ∧ (s_.2.2 ≠ gb299) ∧ (Below w.heap.size w w')) ?_ ?_
              rotate_left
              · intro hCont
                refine two_ (i := 6) (j := 10) (Ni := some 60) (Nj := some 12) #[true, true, true, true, true, true, true, false, false, false, false, false, false] #[true, true, true, true, true, true, false, false, false, false, true, false, false] rfl rfl rfl rfl (two_of HT_.out (by kernel_rfl)) (by decide) (by decide) (fun K hK => ?_) (fun K hK => ?_)
                · skip
                  refine goes_ Try.func35 (by kernel_rfl) rfl #[.agg #[.slice Ao33 x300000_2.length co33, .slice Ao34 x300001_2.length co34], .agg #[.int .i64 1, .slice A309_0 (rd_L1 t296 x11_2).length c309_0]] (by rfl) rfl rfl (by (try simp only [List.map_toArray, List.map_cons, List.map_nil]); first | done | rfl | (simp only [List.length_drop, List.length_take]; rfl)) ?_
                  with_reducible refine (journal_Put.calls k2 _ _ x300000_2 _ _ x300001_2 1 _ _ (rd_L1 t296 x11_2) t310 t313 t316 _ ?side1 ?side2 ?side3 ?side4 ?side5 ?side6 A30.out).mono ?_
                  (case side1 => exact pC (Kd.R_reads' HO_300000.out).2.2)
                  (case side2 => exact (Kd.R_reads' HO_300000.out).2.1)
                  (case side3 => exact pC (Kd.R_reads' HO_300001.out).2.2)
                  (case side4 => exact (Kd.R_reads' HO_300001.out).2.1)
                  (case side5 => exact pC (by exact pC HR309_0.out))
                  (case side6 => exact HC309_0.out)
                  rintro e w36 ⟨v311, v314, rfl, ho0, ho1, hb⟩
                  have HS2_ := (hb.cell (World.block_lt_of_cell? _ _ (hHeld.2.2))).trans (hHeld.2.2)
                  refine ⟨_, rfl, ?_⟩
                  have n0_ := Aside0.mk (Kd.N_mono (Kd.N_told (Kd.N_told (Kd.N_old (by exact pN HO_0.out) hb) (Kd.R_base ho0)) (Kd.R_base ho1)) (fun _ h_ => h_.1))
                  have n1_ := Aside0.mk (Kd.N_mono (Kd.N_told (Kd.N_told (Kd.N_old (by exact pN HO_1.out) hb) (Kd.R_base ho0)) (Kd.R_base ho1)) (fun _ h_ => h_.1))
                  have n2_ := Aside0.mk (Kd.R_mono (Kd.R_told (Kd.R_told (Kd.R_old (by exact pR HO_300000.out) hb) (Kd.R_base ho0)) (Kd.R_base ho1)) (fun _ h_ => h_.1))
                  have n3_ := Aside0.mk (Kd.R_mono (Kd.R_told (Kd.R_told (Kd.R_old (by exact pR HO_300001.out) hb) (Kd.R_base ho0)) (Kd.R_base ho1)) (fun _ h_ => h_.1))
                  have n4_ := Aside0.mk (Kd.V_mono (Kd.V_told (Kd.V_told (Kd.V_old (by exact pV HL309_0.out) hb) (Kd.R_base ho0)) (Kd.R_base ho1)) (fun _ h_ => h_.1))
                  have n5_ := Aside0.mk (Kd.R_lower (Kd.R_new' (Kd.R_new' ho0 (Kd.R_lt (by exact pR HO_300000.out))) (Kd.R_lt (by exact pR HO_300001.out))) (below_size (by exact pB HB.out)))
                  have n6_ := Aside0.mk (Kd.R_lower (Kd.R_new' (Kd.R_new' ho1 (Kd.R_lt (by exact pR HO_300000.out))) (Kd.R_lt (by exact pR HO_300001.out))) (below_size (by exact pB HB.out)))
                  have n7_ := Aside0.mk (blk_below (g := gb299) (o := .cells #[.slice Ao33 x300000_2.length co33, .slice Ao34 x300001_2.length co34] 24 (0, 0)) (by exact pK BK299.out) hb)
                  have n8_ := Aside0.mk (Kd.C_below (by exact pC HR309_0.out) hb)
                  have n9_ := Aside0.mk (below_step (by exact pB HB.out) hb)
                  clear HO_0
                  clear HO_1
                  clear HO_300000
                  clear HO_300001
                  clear HL309_0
                  clear BK299
                  clear HR309_0
                  clear HB
                  have HO_0 := n0_
                  have HO_1 := n1_
                  have HO_300000 := n2_
                  have HO_300001 := n3_
                  have HL309_0 := n4_
                  have HO312 := n5_
                  have HO315 := n6_
                  have BK299 := n7_
                  have HR309_0 := n8_
                  have HB := n9_
                  clear n0_ n1_ n2_ n3_ n4_ n5_ n6_ n7_ n8_ n9_
                  (try clear hb)
                  (try clear hb2)
                  (try clear hk)
                  (try clear hi)
                  (try clear ho0)
                  (try clear ho1)
                  refine hK.out _ _ ⟨(blk_cell BK299.out 0).trans rfl, (blk_cell BK299.out 1).trans rfl, HS2_⟩ (fun hHeld => ?_)
                  clear hK K
                  refine norm_ (a' := ?_) ?_ ?_
                  rotate_left
                  · show Act.put _ (some 60) _ = _
                    simp only [Act.put, List.setIfInBounds_toArray, List.set_cons_zero, List.set_cons_succ, i64_w, i32_w]
                    rfl
                  refine pure_ (i := 7) (N := some 53) (v := ?_) (a' := ?_) #[true, true, true, true, true, true, true, true, false, false, false, false, false] rfl rfl (any_of HT_.out (by kernel_rfl)) (fun _ _ _ h => h) (Or.inl ⟨by rfl, ?_⟩) ?_ ?_
                  rotate_left
                  · intro w'
                    go_simp
                    with_reducible rfl
                  rotate_left
                  · simp only [Act.put, List.setIfInBounds_toArray, List.set_cons_zero, List.set_cons_succ, i64_w, i32_w]
                    rfl
                  refine pure_ (i := 8) (N := some 61) (v := ?_) (a' := ?_) #[true, true, true, true, true, true, true, true, true, false, false, false, false] rfl rfl (any_of HT_.out (by kernel_rfl)) (fun _ _ _ h => h) (Or.inl ⟨by rfl, ?_⟩) ?_ ?_
                  rotate_left
                  · intro w'
                    go_simp
                    with_reducible rfl
                  rotate_left
                  · simp only [Act.put, List.setIfInBounds_toArray, List.set_cons_zero, List.set_cons_succ, i64_w, i32_w]
                    rfl
                  refine pure_ (i := 9) (N := some 62) (v := ?_) (a' := ?_) #[true, true, true, true, true, true, true, true, true, true, false, false, false] rfl rfl (any_of HT_.out (by kernel_rfl)) (fun _ _ _ h => h) (Or.inl ⟨by rfl, ?_⟩) ?_ ?_
                  rotate_left
                  · intro w'
                    go_simp
                    with_reducible rfl
                  rotate_left
                  · simp only [Act.put, List.setIfInBounds_toArray, List.set_cons_zero, List.set_cons_succ, i64_w, i32_w]
                    rfl
                  refine one_ (i := 10) (N := some 12) #[true, true, true, true, true, true, true, true, true, true, true, false, false] rfl rfl (one_of HT_.out (by kernel_rfl)) (by decide) (fun K hK => ?_)
                  refine box_step ?hg (N := 12) ?hd (cs := #[.slice none 0 0, .slice none 0 0]) (t := 24) ?hr ?_; (case hd => rfl); (case hg => rfl); (case hr => first | (go_simp; done) | (go_simp; rfl))
                  intro gb317 hg w37 hbox hb
                  have HS2_ := (hb.cell (World.block_lt_of_cell? _ _ (hHeld.2.2))).trans (hHeld.2.2)
                  have n0_ := Aside0.mk (Kd.N_below (Kd.N_elderB (by exact pN HO_0.out) gb317 (Nat.le_of_eq hg.symm)) hb)
                  have n1_ := Aside0.mk (Kd.N_below (Kd.N_elderB (by exact pN HO_1.out) gb317 (Nat.le_of_eq hg.symm)) hb)
                  have n2_ := Aside0.mk (Kd.R_below (by exact pR HO_300000.out) hb)
                  have n3_ := Aside0.mk (Kd.R_below (by exact pR HO_300001.out) hb)
                  have n4_ := Aside0.mk (Kd.V_below (Kd.V_elderB (by exact pV HL309_0.out) gb317 (Nat.le_of_eq hg.symm)) hb)
                  have n5_ := Aside0.mk (Kd.R_below (by exact pR HO312.out) hb)
                  have n6_ := Aside0.mk (Kd.R_below (by exact pR HO315.out) hb)
                  have n7_ := Aside0.mk (blk_below (g := gb299) (o := .cells #[.slice Ao33 x300000_2.length co33, .slice Ao34 x300001_2.length co34] 24 (0, 0)) (by exact pK BK299.out) hb)
                  have n8_ := Aside0.mk (Kd.C_below (by exact pC HR309_0.out) hb)
                  have n9_ := Aside0.mk (below_step (by exact pB HB.out) hb)
                  have n10_ := Aside0.mk (hbox)
                  have n11_ := Aside0.mk ((by rw [hg]; exact (below_size (by exact pB HB.out)) : w.heap.size ≤ gb317))
                  have n12_ := Aside0.mk ((by rw [hg]; exact (below_size (by exact pB HB.out)) : w.heap.size ≤ gb317))
                  have n13_ := Aside0.mk ((by rw [hg]; exact Nat.ne_of_lt (blk_lt (g := gb299) (o := .cells #[.slice Ao33 x300000_2.length co33, .slice Ao34 x300001_2.length co34] 24 (0, 0)) (by exact pK BK299.out)) : gb299 ≠ gb317))
                  have n14_ := Aside0.mk ((by rw [hg]; exact Nat.ne_of_gt (blk_lt (g := gb299) (o := .cells #[.slice Ao33 x300000_2.length co33, .slice Ao34 x300001_2.length co34] 24 (0, 0)) (by exact pK BK299.out)) : gb317 ≠ gb299))
                  clear HO_0
                  clear HO_1
                  clear HO_300000
                  clear HO_300001
                  clear HL309_0
                  clear HO312
                  clear HO315
                  clear BK299
                  clear HR309_0
                  clear HB
                  have HO_0 := n0_
                  have HO_1 := n1_
                  have HO_300000 := n2_
                  have HO_300001 := n3_
                  have HL309_0 := n4_
                  have HO312 := n5_
                  have HO315 := n6_
                  have BK299 := n7_
                  have HR309_0 := n8_
                  have HB := n9_
                  have BK317 := n10_
                  have GW317 := n11_
                  have GE317 := n12_
                  have NB299_317 := n13_
                  have NB317_299 := n14_
                  clear n0_ n1_ n2_ n3_ n4_ n5_ n6_ n7_ n8_ n9_ n10_ n11_ n12_ n13_ n14_
                  clear hb hbox hg
                  refine hK.out _ _ ⟨(blk_cell BK299.out 0).trans rfl, (blk_cell BK299.out 1).trans rfl, HS2_⟩ (fun hHeld => ?_)
                  clear hK K
                  refine norm_ (a' := ?_) ?_ ?_
                  rotate_left
                  · show Act.put _ (some 12) _ = _
                    simp only [Act.put, List.setIfInBounds_toArray, List.set_cons_zero, List.set_cons_succ, i64_w, i32_w]
                    rfl
                  exact norm_ (by simp only [putAll, Act.put, List.setIfInBounds_toArray, List.set_cons_zero, List.set_cons_succ]) (hCont (v311, v314, gb317) _ ⟨hHeld, (by exact pV (Kd.V_mono HL309_0.out (fun _ hk => ⟨hk.1.1.2, ⟨hk.1.2, ⟨hk.1.1.1.1.1, ⟨hk.1.1.1.2, ⟨hk.1.1.1.1.2.1, ⟨hk.1.1.1.1.2.2.1, ⟨hk.1.1.1.1.2.2.2, hk.2⟩⟩⟩⟩⟩⟩⟩))), (by exact pR (Kd.R_mono HO312.out (fun _ hk => ⟨hk.1.1, ⟨hk.1.2, hk.2⟩⟩))), (by exact pR (Kd.R_mono HO315.out (fun _ hk => ⟨hk.1.1, ⟨hk.1.2, hk.2⟩⟩))), (by exact pN (Kd.N_mono HO_0.out (fun _ hk => ⟨hk.1.1.2, ⟨hk.1.2, ⟨hk.1.1.1.1, ⟨hk.1.1.1.2.1, ⟨hk.1.1.1.2.2.1, ⟨hk.1.1.1.2.2.2, hk.2⟩⟩⟩⟩⟩⟩))), (by exact pN (Kd.N_mono HO_1.out (fun _ hk => ⟨hk.1.1.2, ⟨hk.1.2, ⟨hk.1.1.1.1, ⟨hk.1.1.1.2.1, ⟨hk.1.1.1.2.2.1, ⟨hk.1.1.1.2.2.2, hk.2⟩⟩⟩⟩⟩⟩))), (by exact pR (Kd.R_mono HO_300000.out (fun _ hk => ⟨hk.1.2, ⟨hk.2, hk.1.1⟩⟩))), (by exact pR (Kd.R_mono HO_300001.out (fun _ hk => ⟨hk.1.2, ⟨hk.2, hk.1.1⟩⟩))), (by exact pK BK299.out), (by exact pK BK317.out), GW317.out, GE317.out, NB299_317.out, NB317_299.out, (by exact pB HB.out)⟩)
                · skip
                  refine box_step ?hg (N := 12) ?hd (cs := #[.slice none 0 0, .slice none 0 0]) (t := 24) ?hr ?_; (case hd => rfl); (case hg => rfl); (case hr => first | (go_simp; done) | (go_simp; rfl))
                  intro gb317 hg w36 hbox hb
                  have HS2_ := (hb.cell (World.block_lt_of_cell? _ _ (hHeld.2.2))).trans (hHeld.2.2)
                  have n0_ := Aside0.mk (Kd.N_below (Kd.N_elderB (by exact pN HO_0.out) gb317 (Nat.le_of_eq hg.symm)) hb)
                  have n1_ := Aside0.mk (Kd.N_below (Kd.N_elderB (by exact pN HO_1.out) gb317 (Nat.le_of_eq hg.symm)) hb)
                  have n2_ := Aside0.mk (Kd.R_below (by exact pR HO_300000.out) hb)
                  have n3_ := Aside0.mk (Kd.R_below (by exact pR HO_300001.out) hb)
                  have n4_ := Aside0.mk (Kd.V_below (Kd.V_elderB (by exact pV HL309_0.out) gb317 (Nat.le_of_eq hg.symm)) hb)
                  have n5_ := Aside0.mk (blk_below (g := gb299) (o := .cells #[.slice Ao33 x300000_2.length co33, .slice Ao34 x300001_2.length co34] 24 (0, 0)) (by exact pK BK299.out) hb)
                  have n6_ := Aside0.mk (Kd.C_below (by exact pC HR309_0.out) hb)
                  have n7_ := Aside0.mk (below_step (by exact pB HB.out) hb)
                  have n8_ := Aside0.mk (hbox)
                  have n9_ := Aside0.mk ((by rw [hg]; exact (below_size (by exact pB HB.out)) : w.heap.size ≤ gb317))
                  have n10_ := Aside0.mk ((by rw [hg]; exact (below_size (by exact pB HB.out)) : w.heap.size ≤ gb317))
                  have n11_ := Aside0.mk ((by rw [hg]; exact Nat.ne_of_lt (blk_lt (g := gb299) (o := .cells #[.slice Ao33 x300000_2.length co33, .slice Ao34 x300001_2.length co34] 24 (0, 0)) (by exact pK BK299.out)) : gb299 ≠ gb317))
                  have n12_ := Aside0.mk ((by rw [hg]; exact Nat.ne_of_gt (blk_lt (g := gb299) (o := .cells #[.slice Ao33 x300000_2.length co33, .slice Ao34 x300001_2.length co34] 24 (0, 0)) (by exact pK BK299.out)) : gb317 ≠ gb299))
                  clear HO_0
                  clear HO_1
                  clear HO_300000
                  clear HO_300001
                  clear HL309_0
                  clear BK299
                  clear HR309_0
                  clear HB
                  have HO_0 := n0_
                  have HO_1 := n1_
                  have HO_300000 := n2_
                  have HO_300001 := n3_
                  have HL309_0 := n4_
                  have BK299 := n5_
                  have HR309_0 := n6_
                  have HB := n7_
                  have BK317 := n8_
                  have GW317 := n9_
                  have GE317 := n10_
                  have NB299_317 := n11_
                  have NB317_299 := n12_
                  clear n0_ n1_ n2_ n3_ n4_ n5_ n6_ n7_ n8_ n9_ n10_ n11_ n12_
                  clear hb hbox hg
                  refine hK.out _ _ ⟨(blk_cell BK299.out 0).trans rfl, (blk_cell BK299.out 1).trans rfl, HS2_⟩ (fun hHeld => ?_)
                  clear hK K
                  refine norm_ (a' := ?_) ?_ ?_
                  rotate_left
                  · show Act.put _ (some 12) _ = _
                    simp only [Act.put, List.setIfInBounds_toArray, List.set_cons_zero, List.set_cons_succ, i64_w, i32_w]
                    rfl
                  refine one_ (i := 6) (N := some 60) #[true, true, true, true, true, true, true, false, false, false, true, false, false] rfl rfl (one_of HT_.out (by kernel_rfl)) (by decide) (fun K hK => ?_)
                  refine goes_ Try.func35 (by kernel_rfl) rfl #[.agg #[.slice Ao33 x300000_2.length co33, .slice Ao34 x300001_2.length co34], .agg #[.int .i64 1, .slice A309_0 (rd_L1 t296 x11_2).length c309_0]] (by rfl) rfl rfl (by (try simp only [List.map_toArray, List.map_cons, List.map_nil]); first | done | rfl | (simp only [List.length_drop, List.length_take]; rfl)) ?_
                  with_reducible refine (journal_Put.calls k2 _ _ x300000_2 _ _ x300001_2 1 _ _ (rd_L1 t296 x11_2) t310 t313 t316 _ ?side1 ?side2 ?side3 ?side4 ?side5 ?side6 A30.out).mono ?_
                  (case side1 => exact pC (Kd.R_reads' HO_300000.out).2.2)
                  (case side2 => exact (Kd.R_reads' HO_300000.out).2.1)
                  (case side3 => exact pC (Kd.R_reads' HO_300001.out).2.2)
                  (case side4 => exact (Kd.R_reads' HO_300001.out).2.1)
                  (case side5 => exact pC (by exact pC HR309_0.out))
                  (case side6 => exact HC309_0.out)
                  rintro e w37 ⟨v311, v314, rfl, ho0, ho1, hb⟩
                  have HS2_ := (hb.cell (World.block_lt_of_cell? _ _ (hHeld.2.2))).trans (hHeld.2.2)
                  refine ⟨_, rfl, ?_⟩
                  have n0_ := Aside0.mk (Kd.N_mono (Kd.N_told (Kd.N_told (Kd.N_old (by exact pN HO_0.out) hb) (Kd.R_base ho0)) (Kd.R_base ho1)) (fun _ h_ => h_.1))
                  have n1_ := Aside0.mk (Kd.N_mono (Kd.N_told (Kd.N_told (Kd.N_old (by exact pN HO_1.out) hb) (Kd.R_base ho0)) (Kd.R_base ho1)) (fun _ h_ => h_.1))
                  have n2_ := Aside0.mk (Kd.R_mono (Kd.R_told (Kd.R_told (Kd.R_old (by exact pR HO_300000.out) hb) (Kd.R_base ho0)) (Kd.R_base ho1)) (fun _ h_ => h_.1))
                  have n3_ := Aside0.mk (Kd.R_mono (Kd.R_told (Kd.R_told (Kd.R_old (by exact pR HO_300001.out) hb) (Kd.R_base ho0)) (Kd.R_base ho1)) (fun _ h_ => h_.1))
                  have n4_ := Aside0.mk (Kd.V_mono (Kd.V_told (Kd.V_told (Kd.V_old (by exact pV HL309_0.out) hb) (Kd.R_base ho0)) (Kd.R_base ho1)) (fun _ h_ => h_.1))
                  have n5_ := Aside0.mk (Kd.R_lower (Kd.R_new' (Kd.R_new' ho0 (Kd.R_lt (by exact pR HO_300000.out))) (Kd.R_lt (by exact pR HO_300001.out))) (below_size (by exact pB HB.out)))
                  have n6_ := Aside0.mk (Kd.R_lower (Kd.R_new' (Kd.R_new' ho1 (Kd.R_lt (by exact pR HO_300000.out))) (Kd.R_lt (by exact pR HO_300001.out))) (below_size (by exact pB HB.out)))
                  have n7_ := Aside0.mk (blk_below (g := gb299) (o := .cells #[.slice Ao33 x300000_2.length co33, .slice Ao34 x300001_2.length co34] 24 (0, 0)) (by exact pK BK299.out) hb)
                  have n8_ := Aside0.mk (Kd.C_below (by exact pC HR309_0.out) hb)
                  have n9_ := Aside0.mk (blk_below (g := gb317) (o := .cells #[.slice none 0 0, .slice none 0 0] 24 (0, 0)) (by exact pK BK317.out) hb)
                  have n10_ := Aside0.mk (below_step (by exact pB HB.out) hb)
                  clear HO_0
                  clear HO_1
                  clear HO_300000
                  clear HO_300001
                  clear HL309_0
                  clear BK299
                  clear HR309_0
                  clear BK317
                  clear HB
                  have HO_0 := n0_
                  have HO_1 := n1_
                  have HO_300000 := n2_
                  have HO_300001 := n3_
                  have HL309_0 := n4_
                  have HO312 := n5_
                  have HO315 := n6_
                  have BK299 := n7_
                  have HR309_0 := n8_
                  have BK317 := n9_
                  have HB := n10_
                  clear n0_ n1_ n2_ n3_ n4_ n5_ n6_ n7_ n8_ n9_ n10_
                  (try clear hb)
                  (try clear hb2)
                  (try clear hk)
                  (try clear hi)
                  (try clear ho0)
                  (try clear ho1)
                  refine hK.out _ _ ⟨(blk_cell BK299.out 0).trans rfl, (blk_cell BK299.out 1).trans rfl, HS2_⟩ (fun hHeld => ?_)
                  clear hK K
                  refine norm_ (a' := ?_) ?_ ?_
                  rotate_left
                  · show Act.put _ (some 60) _ = _
                    simp only [Act.put, List.setIfInBounds_toArray, List.set_cons_zero, List.set_cons_succ, i64_w, i32_w]
                    rfl
                  refine pure_ (i := 7) (N := some 53) (v := ?_) (a' := ?_) #[true, true, true, true, true, true, true, true, false, false, true, false, false] rfl rfl (any_of HT_.out (by kernel_rfl)) (fun _ _ _ h => h) (Or.inl ⟨by rfl, ?_⟩) ?_ ?_
                  rotate_left
                  · intro w'
                    go_simp
                    with_reducible rfl
                  rotate_left
                  · simp only [Act.put, List.setIfInBounds_toArray, List.set_cons_zero, List.set_cons_succ, i64_w, i32_w]
                    rfl
                  refine pure_ (i := 8) (N := some 61) (v := ?_) (a' := ?_) #[true, true, true, true, true, true, true, true, true, false, true, false, false] rfl rfl (any_of HT_.out (by kernel_rfl)) (fun _ _ _ h => h) (Or.inl ⟨by rfl, ?_⟩) ?_ ?_
                  rotate_left
                  · intro w'
                    go_simp
                    with_reducible rfl
                  rotate_left
                  · simp only [Act.put, List.setIfInBounds_toArray, List.set_cons_zero, List.set_cons_succ, i64_w, i32_w]
                    rfl
                  refine pure_ (i := 9) (N := some 62) (v := ?_) (a' := ?_) #[true, true, true, true, true, true, true, true, true, true, true, false, false] rfl rfl (any_of HT_.out (by kernel_rfl)) (fun _ _ _ h => h) (Or.inl ⟨by rfl, ?_⟩) ?_ ?_
                  rotate_left
                  · intro w'
                    go_simp
                    with_reducible rfl
                  rotate_left
                  · simp only [Act.put, List.setIfInBounds_toArray, List.set_cons_zero, List.set_cons_succ, i64_w, i32_w]
                    rfl
                  exact norm_ (by simp only [putAll, Act.put, List.setIfInBounds_toArray, List.set_cons_zero, List.set_cons_succ]) (hCont (v311, v314, gb317) _ ⟨hHeld, (by exact pV (Kd.V_mono HL309_0.out (fun _ hk => ⟨hk.1.2, ⟨hk.2, ⟨hk.1.1.1.1.1, ⟨hk.1.1.1.2, ⟨hk.1.1.1.1.2.1, ⟨hk.1.1.1.1.2.2.1, ⟨hk.1.1.1.1.2.2.2, hk.1.1.2⟩⟩⟩⟩⟩⟩⟩))), (by exact pR (Kd.R_mono HO312.out (fun _ hk => ⟨hk.1.1, ⟨hk.1.2, hk.2⟩⟩))), (by exact pR (Kd.R_mono HO315.out (fun _ hk => ⟨hk.1.1, ⟨hk.1.2, hk.2⟩⟩))), (by exact pN (Kd.N_mono HO_0.out (fun _ hk => ⟨hk.1.2, ⟨hk.2, ⟨hk.1.1.1.1, ⟨hk.1.1.1.2.1, ⟨hk.1.1.1.2.2.1, ⟨hk.1.1.1.2.2.2, hk.1.1.2⟩⟩⟩⟩⟩⟩))), (by exact pN (Kd.N_mono HO_1.out (fun _ hk => ⟨hk.1.2, ⟨hk.2, ⟨hk.1.1.1.1, ⟨hk.1.1.1.2.1, ⟨hk.1.1.1.2.2.1, ⟨hk.1.1.1.2.2.2, hk.1.1.2⟩⟩⟩⟩⟩⟩))), (by exact pR (Kd.R_mono HO_300000.out (fun _ hk => ⟨hk.1.2, ⟨hk.2, hk.1.1⟩⟩))), (by exact pR (Kd.R_mono HO_300001.out (fun _ hk => ⟨hk.1.2, ⟨hk.2, hk.1.1⟩⟩))), (by exact pK BK299.out), (by exact pK BK317.out), GW317.out, GE317.out, NB299_317.out, NB317_299.out, (by exact pB HB.out)⟩)
              rintro ⟨v311, v314, gb317⟩ w38 ⟨hS_, h0_, h1_, h2_, h3_, h4_, h5_, h6_, h7_, h8_, h9_, h10_, h11_, h12_, h13_⟩
              have n0_ : Aside0 (Kd.V (Kd.int .u8) 5 w38 w.heap.size (fun k_ => some k_ ≠ (v311 : Value).ownBlock ∧ some k_ ≠ (v314 : Value).ownBlock ∧ some k_ ≠ (.slice Ao27 t293.length co27 : Value).ownBlock ∧ some k_ ≠ (.slice (some ad309) t296.length co32 : Value).ownBlock ∧ some k_ ≠ (.slice Ao33 x300000_2.length co33 : Value).ownBlock ∧ some k_ ≠ (.slice Ao34 x300001_2.length co34 : Value).ownBlock ∧ k_ ≠ gb299 ∧ k_ ≠ gb317) (.slice A309_0 (rd_L1 t296 x11_2).length c309_0) (rd_L1 t296 x11_2)) := ⟨h0_⟩
              have n1_ : Aside0 (Kd.R (Kd.int .u8) 5 w38 w.heap.size (fun k_ => some k_ ≠ (v314 : Value).ownBlock ∧ some k_ ≠ (.slice Ao33 x300000_2.length co33 : Value).ownBlock ∧ some k_ ≠ (.slice Ao34 x300001_2.length co34 : Value).ownBlock) v311 t310) := ⟨h1_⟩
              have n2_ : Aside0 (Kd.R (Kd.int .u8) 5 w38 w.heap.size (fun k_ => some k_ ≠ (v311 : Value).ownBlock ∧ some k_ ≠ (.slice Ao33 x300000_2.length co33 : Value).ownBlock ∧ some k_ ≠ (.slice Ao34 x300001_2.length co34 : Value).ownBlock) v314 t313) := ⟨h2_⟩
              have n3_ : Aside0 (Kd.N (Kd.slice 5 (Kd.int .u8)) 22 w38 w.heap.size (fun k_ => some k_ ≠ (v311 : Value).ownBlock ∧ some k_ ≠ (v314 : Value).ownBlock ∧ some k_ ≠ (.slice (some ad309) t296.length co32 : Value).ownBlock ∧ some k_ ≠ (.slice Ao33 x300000_2.length co33 : Value).ownBlock ∧ some k_ ≠ (.slice Ao34 x300001_2.length co34 : Value).ownBlock ∧ k_ ≠ gb299 ∧ k_ ≠ gb317) (.slice Ao27 t293.length co27) t293) := ⟨h3_⟩
              have n4_ : Aside0 (Kd.N (Kd.slice 5 (Kd.int .u8)) 22 w38 w.heap.size (fun k_ => some k_ ≠ (v311 : Value).ownBlock ∧ some k_ ≠ (v314 : Value).ownBlock ∧ some k_ ≠ (.slice Ao27 t293.length co27 : Value).ownBlock ∧ some k_ ≠ (.slice Ao33 x300000_2.length co33 : Value).ownBlock ∧ some k_ ≠ (.slice Ao34 x300001_2.length co34 : Value).ownBlock ∧ k_ ≠ gb299 ∧ k_ ≠ gb317) (.slice (some ad309) t296.length co32) t296) := ⟨h4_⟩
              have n5_ : Aside0 (Kd.R (Kd.int .u8) 5 w38 w.heap.size (fun k_ => some k_ ≠ (v311 : Value).ownBlock ∧ some k_ ≠ (v314 : Value).ownBlock ∧ some k_ ≠ (.slice Ao34 x300001_2.length co34 : Value).ownBlock) (.slice Ao33 x300000_2.length co33) x300000_2) := ⟨h5_⟩
              have n6_ : Aside0 (Kd.R (Kd.int .u8) 5 w38 w.heap.size (fun k_ => some k_ ≠ (v311 : Value).ownBlock ∧ some k_ ≠ (v314 : Value).ownBlock ∧ some k_ ≠ (.slice Ao33 x300000_2.length co33 : Value).ownBlock) (.slice Ao34 x300001_2.length co34) x300001_2) := ⟨h6_⟩
              have n7_ : Aside0 (w38.heap[gb299]? = some (.cells #[.slice Ao33 x300000_2.length co33, .slice Ao34 x300001_2.length co34] 24 (0, 0))) := ⟨h7_⟩
              have n8_ : Aside0 (w38.heap[gb317]? = some (.cells #[.slice none 0 0, .slice none 0 0] 24 (0, 0))) := ⟨h8_⟩
              have n9_ : Aside0 (w.heap.size ≤ gb317) := ⟨h9_⟩
              have n10_ : Aside0 (w.heap.size ≤ gb317) := ⟨h10_⟩
              have n11_ : Aside0 (gb299 ≠ gb317) := ⟨h11_⟩
              have n12_ : Aside0 (gb317 ≠ gb299) := ⟨h12_⟩
              have n13_ : Aside0 (Below w.heap.size w w38) := ⟨h13_⟩
              clear HO_0
              clear HO_1
              clear HO_300000
              clear HO_300001
              clear BK299
              clear HB
              clear h0_ h1_ h2_ h3_ h4_ h5_ h6_ h7_ h8_ h9_ h10_ h11_ h12_ h13_
              have HL309_0 := n0_
              have HO312 := n1_
              have HO315 := n2_
              have HO_0 := n3_
              have HO_1 := n4_
              have HO_300000 := n5_
              have HO_300001 := n6_
              have BK299 := n7_
              have BK317 := n8_
              have GW317 := n9_
              have GE317 := n10_
              have NB299_317 := n11_
              have NB317_299 := n12_
              have HB := n13_
              clear n0_ n1_ n2_ n3_ n4_ n5_ n6_ n7_ n8_ n9_ n10_ n11_ n12_ n13_
              have hHeld : w38.cell? ⟨gb299, 0, none⟩ = some (.slice Ao33 x300000_2.length co33) ∧ w38.cell? ⟨gb299, 1, none⟩ = some (.slice Ao34 x300001_2.length co34) ∧ w38.cell? (ad309.add (x11_2).toNat) = some (.slice A309_0 (rd_L1 t296 x11_2).length c309_0) := hS_
              obtain ⟨Ao39, co39, eo39⟩ := Kd.R_slice HO312.out
              (first | subst eo39 | (injection eo39 with f1_ f2_ f3_; have f4_ := f1_.symm; have f5_ := f3_.symm; clear f1_ f2_ f3_; subst f4_; subst f5_))
              obtain ⟨Ao41, co41, eo41⟩ := Kd.R_slice HO315.out
              (first | subst eo41 | (injection eo41 with f1_ f2_ f3_; have f4_ := f1_.symm; have f5_ := f3_.symm; clear f1_ f2_ f3_; subst f4_; subst f5_))
              refine norm_ (a' := ?_) ?_ ?_
              rotate_left
              · simp only [putAll, Act.put, List.setIfInBounds_toArray, List.set_cons_zero, List.set_cons_succ]
                rfl
              refine one_ (i := 11) (N := none) #[true, true, true, true, true, true, true, true, true, true, true, true, false] rfl rfl (one_of HT_.out (by kernel_rfl)) (by decide) (fun K hK => ?_)
              have hs40 : w38.cell? ⟨gb317, 0, none⟩ = some (.slice none 0 0) := (blk_cell BK317.out 0).trans rfl
              have hfs40 := blk_frozen BK317.out 0
              have hns40_0 := NB299_317.out
              have hms40_0 := NB317_299.out
              have hs42 : w38.cell? ⟨gb317, 1, none⟩ = some (.slice none 0 0) := (blk_cell BK317.out 1).trans rfl
              have hfs42 := blk_frozen BK317.out 1
              have hns42_0 := NB299_317.out
              have hms42_0 := NB317_299.out
              refine skip_ (w1 := ?_) (by rfl) rfl ?_ ?_
              rotate_left
              · go_simp
                rfl
              refine hK.out _ _ ⟨((cell_far (p := ⟨gb317, _, none⟩) NB299_317.out _).trans (((cell_far (p := ⟨gb317, _, none⟩) NB299_317.out _).trans (hHeld.1)))), ((cell_far (p := ⟨gb317, _, none⟩) NB299_317.out _).trans (((cell_far (p := ⟨gb317, _, none⟩) NB299_317.out _).trans (hHeld.2.1)))), ((cell_far (p := ⟨gb317, _, none⟩) (by first | exact Kd.own_blk (Kd.N_away HO_1.out (fun _ hk => hk.2.2.2.2.2.2)) | (rw [add_block]; exact Kd.own_blk (Kd.N_away HO_1.out (fun _ hk => hk.2.2.2.2.2.2))) | (show (Addr.add _ _).block ≠ _; rw [add_block]; exact Kd.own_blk (Kd.N_away HO_1.out (fun _ hk => hk.2.2.2.2.2.2))) | (dsimp only; exact Kd.own_blk (Kd.N_away HO_1.out (fun _ hk => hk.2.2.2.2.2.2)))) _).trans (((cell_far (p := ⟨gb317, _, none⟩) (by first | exact Kd.own_blk (Kd.N_away HO_1.out (fun _ hk => hk.2.2.2.2.2.2)) | (rw [add_block]; exact Kd.own_blk (Kd.N_away HO_1.out (fun _ hk => hk.2.2.2.2.2.2))) | (show (Addr.add _ _).block ≠ _; rw [add_block]; exact Kd.own_blk (Kd.N_away HO_1.out (fun _ hk => hk.2.2.2.2.2.2))) | (dsimp only; exact Kd.own_blk (Kd.N_away HO_1.out (fun _ hk => hk.2.2.2.2.2.2)))) _).trans (hHeld.2.2))))⟩ (fun hHeld => ?_)
              clear hK K
              refine pure_ (i := 12) (N := some 13) (v := ?_) (a' := ?_) #[true, true, true, true, true, true, true, true, true, true, true, true, true] rfl rfl (any_of HT_.out (by kernel_rfl)) (fun _ _ _ h => h) (Or.inl ⟨by rfl, ?_⟩) ?_ ?_
              rotate_left
              · intro w'
                go_simp
                with_reducible rfl
              rotate_left
              · simp only [Act.put, List.setIfInBounds_toArray, List.set_cons_zero, List.set_cons_succ, i64_w, i32_w]
                rfl
              refine done_ (done_of HT_.out (by kernel_rfl)) ?_
              have hnb43 := NB317_299.out
              have hnc43 := NB299_317.out
              have hcz44_0 : w38.cell? ⟨gb317, 0, none⟩ = some (.slice none 0 0) := (blk_cell BK317.out 0).trans rfl
              have hcz44_1 : w38.cell? ⟨gb317, 1, none⟩ = some (.slice none 0 0) := (blk_cell BK317.out 1).trans rfl
              have hfz44_0 := blk_frozen BK317.out 0
              have hfz44_1 := blk_frozen BK317.out 1
              have hcz45_0 : w38.cell? ⟨gb299, 0, none⟩ = some (.slice Ao33 x300000_2.length co33) := (blk_cell BK299.out 0).trans rfl
              have hcz45_1 : w38.cell? ⟨gb299, 1, none⟩ = some (.slice Ao34 x300001_2.length co34) := (blk_cell BK299.out 1).trans rfl
              have hfz45_0 := blk_frozen BK299.out 0
              have hfz45_1 := blk_frozen BK299.out 1
              try go_wp2
              go_roundg k2
              case measure => have := HK1.out; have := HK2.out; omega
              case rel => exact ⟨(wrap64 (x11_2 + 1)), (t310), (t313), (.slice Ao39 t310.length co39), (.slice Ao41 t313.length co41), (by first | rfl | (simp; done) | (simp [*]; done)), H', ⟨by have := HK1.out; have := HK2.out; omega⟩, ⟨by (with_reducible repeat (first | apply Kd.N_alloc | apply Kd.N_drewN | apply Kd.N_drew)); exact Kd.N_mono (Kd.N_far (p := ⟨gb299, 1, none⟩) (Kd.N_far (p := ⟨gb299, 0, none⟩) (Kd.N_far (p := ⟨gb317, 1, none⟩) (Kd.N_far (p := ⟨gb317, 0, none⟩) (Kd.N_mono (Kd.N_mono HO_0.out (fun k_ hk => (⟨hk, hk.2.2.2.2.2.2⟩ : _ ∧ k_ ≠ gb317))) (fun k_ hk => (⟨hk, hk.1.2.2.2.2.2.1⟩ : _ ∧ k_ ≠ gb299))) (fun _ hk => hk.1.2) (.slice Ao39 t310.length co39)) (fun _ hk => hk.1.2) (.slice Ao41 t313.length co41)) (fun _ hk => hk.2) (.slice Ao39 t310.length co39)) (fun _ hk => hk.2) (.slice Ao41 t313.length co41)) (fun _ hk => ⟨hk.1.1.2.2.1, ⟨hk.1.1.1, ⟨hk.1.1.2.1, hk.1.1.2.2.2.2.2.1⟩⟩⟩)⟩, ⟨by (with_reducible repeat (first | apply Kd.N_alloc | apply Kd.N_drewN | apply Kd.N_drew)); exact Kd.N_mono (Kd.N_far (p := ⟨gb299, 1, none⟩) (Kd.N_far (p := ⟨gb299, 0, none⟩) (Kd.N_far (p := ⟨gb317, 1, none⟩) (Kd.N_far (p := ⟨gb317, 0, none⟩) (Kd.N_mono (Kd.N_mono HO_1.out (fun k_ hk => (⟨hk, hk.2.2.2.2.2.2⟩ : _ ∧ k_ ≠ gb317))) (fun k_ hk => (⟨hk, hk.1.2.2.2.2.2.1⟩ : _ ∧ k_ ≠ gb299))) (fun _ hk => hk.1.2) (.slice Ao39 t310.length co39)) (fun _ hk => hk.1.2) (.slice Ao41 t313.length co41)) (fun _ hk => hk.2) (.slice Ao39 t310.length co39)) (fun _ hk => hk.2) (.slice Ao41 t313.length co41)) (fun _ hk => ⟨hk.1.1.2.2.1, ⟨hk.1.1.1, ⟨hk.1.1.2.1, hk.1.1.2.2.2.2.2.1⟩⟩⟩)⟩, ⟨by (with_reducible repeat (first | apply Kd.R_alloc | apply Kd.R_drewN | apply Kd.R_drew)); exact Kd.R_mono (Kd.R_far (p := ⟨gb299, 1, none⟩) (Kd.R_far (p := ⟨gb299, 0, none⟩) (Kd.R_far (p := ⟨gb317, 1, none⟩) (Kd.R_far (p := ⟨gb317, 0, none⟩) (Kd.R_types (Kd.R_types HO312.out BK317.out (by decide)) BK299.out (by decide)) (fun _ hk => hk.1.2) (.slice Ao39 t310.length co39)) (fun _ hk => hk.1.2) (.slice Ao41 t313.length co41)) (fun _ hk => hk.2) (.slice Ao39 t310.length co39)) (fun _ hk => hk.2) (.slice Ao41 t313.length co41)) (fun _ hk => hk.1.1.1)⟩, ⟨by (with_reducible repeat (first | apply Kd.R_alloc | apply Kd.R_drewN | apply Kd.R_drew)); exact Kd.R_mono (Kd.R_far (p := ⟨gb299, 1, none⟩) (Kd.R_far (p := ⟨gb299, 0, none⟩) (Kd.R_far (p := ⟨gb317, 1, none⟩) (Kd.R_far (p := ⟨gb317, 0, none⟩) (Kd.R_types (Kd.R_types HO315.out BK317.out (by decide)) BK299.out (by decide)) (fun _ hk => hk.1.2) (.slice Ao39 t310.length co39)) (fun _ hk => hk.1.2) (.slice Ao41 t313.length co41)) (fun _ hk => hk.2) (.slice Ao39 t310.length co39)) (fun _ hk => hk.2) (.slice Ao41 t313.length co41)) (fun _ hk => hk.1.1.1)⟩, ⟨by (with_reducible repeat (first | refine blk_drewN ?_ _ | refine blk_drew ?_ | refine blk_alloc ?_ _)); refine blk_put (cs := #[.slice Ao39 t310.length co39, .slice Ao34 x300001_2.length co34]) ?_ 1 _ rfl; (with_reducible repeat (first | refine blk_drewN ?_ _ | refine blk_drew ?_ | refine blk_alloc ?_ _)); refine blk_put (cs := #[.slice Ao33 x300000_2.length co33, .slice Ao34 x300001_2.length co34]) ?_ 0 _ rfl; (with_reducible repeat (first | refine blk_drewN ?_ _ | refine blk_drew ?_ | refine blk_alloc ?_ _)); refine blk_far ?_ NB299_317.out _; (with_reducible repeat (first | refine blk_drewN ?_ _ | refine blk_drew ?_ | refine blk_alloc ?_ _)); refine blk_far ?_ NB299_317.out _; (with_reducible repeat (first | refine blk_drewN ?_ _ | refine blk_drew ?_ | refine blk_alloc ?_ _)); exact BK299.out⟩, ⟨by repeat (first | (with_reducible first | exact HB.out | apply below_alloc | apply pw_below_drewN | apply below_drew1 | refine below_set ?_ GE299.out | refine below_set ?_ GE317.out) | exact HB.out)⟩⟩
            · rw [if_neg c28] at H
              have c28b0 : decide (x11_2 < (t296.length : Int)) = false := decide_eq_false c28
              clear c28
              obtain ⟨y318, hy318⟩ : ∃ y_ : List (List Int), y_ = (([] : List (List Int))) := ⟨_, rfl⟩
              replace H : (if y318.length + t293.length < 5864062014805 then ((some (y318 ++ t293 : List (List Int))).bind fun y321 => (if y321.length + t296.length < 5864062014805 then ((some (y321 ++ t296 : List (List Int))).bind fun y324 => ((customsmade_Within.f a2 5000).bind fun t327 => ((disk_Crash.f x300000_2 x300001_2 t327).bind fun bt328 => ((journal_Open.f k2 bt328.1 bt328.2).bind fun bt334 => (if bt334.2.2.2.1 = true then (customslaw34_JournalCrash.j2 k2 bt334.2.2.2.2 true bt334.1 bt334.2.1) else (if (bt334.2.2.2.2.length : Int) < (t293.length : Int) then (customslaw34_JournalCrash.j2 k2 bt334.2.2.2.2 true bt334.1 bt334.2.1) else (if (bt334.2.2.2.2.length : Int) > (y324.length : Int) then (customslaw34_JournalCrash.j2 k2 bt334.2.2.2.2 true bt334.1 bt334.2.1) else (if 0 ≤ (bt334.2.2.2.2.length : Int) then (if (bt334.2.2.2.2.length : Int) ≤ (y324.length : Int) then ((customsref33_SameRecords.f k2 bt334.2.2.2.2 (y324.take ((bt334.2.2.2.2.length : Int) : Int).toNat)).bind fun t353 => (customslaw34_JournalCrash.j2 k2 bt334.2.2.2.2 (!t353) bt334.1 bt334.2.1)) else (none)) else (none))))))))) else (none))) else (none)) = some true := by first | (rw [hy318]; with_reducible exact H) | (have H2_ := (Option.bind_some _ _).symm.trans H; rw [hy318]; with_reducible exact H2_) | (have H2_ := (Option.bind_some _ _).symm.trans H; with_reducible exact H2_) | with_reducible exact H | (rw [hy318]; exact H) | exact H
              have Ny318 := Aside0.mk hy318
              clear hy318
              have c46 : y318.length + t293.length < 5864062014805 := by
                refine Classical.byContradiction fun c46 => ?_
                rw [if_neg c46] at H
                exact absurd H (by simp)
              rw [if_pos c46] at H
              have LMc46 := Aside0.mk c46
              clear c46
              obtain ⟨y321, hy321⟩ : ∃ y_ : List (List Int), y_ = (y318 ++ t293) := ⟨_, rfl⟩
              replace H : (if y321.length + t296.length < 5864062014805 then ((some (y321 ++ t296 : List (List Int))).bind fun y324 => ((customsmade_Within.f a2 5000).bind fun t327 => ((disk_Crash.f x300000_2 x300001_2 t327).bind fun bt328 => ((journal_Open.f k2 bt328.1 bt328.2).bind fun bt334 => (if bt334.2.2.2.1 = true then (customslaw34_JournalCrash.j2 k2 bt334.2.2.2.2 true bt334.1 bt334.2.1) else (if (bt334.2.2.2.2.length : Int) < (t293.length : Int) then (customslaw34_JournalCrash.j2 k2 bt334.2.2.2.2 true bt334.1 bt334.2.1) else (if (bt334.2.2.2.2.length : Int) > (y324.length : Int) then (customslaw34_JournalCrash.j2 k2 bt334.2.2.2.2 true bt334.1 bt334.2.1) else (if 0 ≤ (bt334.2.2.2.2.length : Int) then (if (bt334.2.2.2.2.length : Int) ≤ (y324.length : Int) then ((customsref33_SameRecords.f k2 bt334.2.2.2.2 (y324.take ((bt334.2.2.2.2.length : Int) : Int).toNat)).bind fun t353 => (customslaw34_JournalCrash.j2 k2 bt334.2.2.2.2 (!t353) bt334.1 bt334.2.1)) else (none)) else (none))))))))) else (none)) = some true := by first | (rw [hy321]; with_reducible exact H) | (have H2_ := (Option.bind_some _ _).symm.trans H; rw [hy321]; with_reducible exact H2_) | (have H2_ := (Option.bind_some _ _).symm.trans H; with_reducible exact H2_) | with_reducible exact H | (rw [hy321]; exact H) | exact H
              have Ny321 := Aside0.mk hy321
              clear hy321
              have c47 : y321.length + t296.length < 5864062014805 := by
                refine Classical.byContradiction fun c47 => ?_
                rw [if_neg c47] at H
                exact absurd H (by simp)
              rw [if_pos c47] at H
              have LMc47 := Aside0.mk c47
              clear c47
              obtain ⟨y324, hy324⟩ : ∃ y_ : List (List Int), y_ = (y321 ++ t296) := ⟨_, rfl⟩
              replace H : ((customsmade_Within.f a2 5000).bind fun t327 => ((disk_Crash.f x300000_2 x300001_2 t327).bind fun bt328 => ((journal_Open.f k2 bt328.1 bt328.2).bind fun bt334 => (if bt334.2.2.2.1 = true then (customslaw34_JournalCrash.j2 k2 bt334.2.2.2.2 true bt334.1 bt334.2.1) else (if (bt334.2.2.2.2.length : Int) < (t293.length : Int) then (customslaw34_JournalCrash.j2 k2 bt334.2.2.2.2 true bt334.1 bt334.2.1) else (if (bt334.2.2.2.2.length : Int) > (y324.length : Int) then (customslaw34_JournalCrash.j2 k2 bt334.2.2.2.2 true bt334.1 bt334.2.1) else (if 0 ≤ (bt334.2.2.2.2.length : Int) then (if (bt334.2.2.2.2.length : Int) ≤ (y324.length : Int) then ((customsref33_SameRecords.f k2 bt334.2.2.2.2 (y324.take ((bt334.2.2.2.2.length : Int) : Int).toNat)).bind fun t353 => (customslaw34_JournalCrash.j2 k2 bt334.2.2.2.2 (!t353) bt334.1 bt334.2.1)) else (none)) else (none)))))))) = some true := by first | (rw [hy324]; with_reducible exact H) | (have H2_ := (Option.bind_some _ _).symm.trans H; rw [hy324]; with_reducible exact H2_) | (have H2_ := (Option.bind_some _ _).symm.trans H; with_reducible exact H2_) | with_reducible exact H | (rw [hy324]; exact H) | exact H
              have Ny324 := Aside0.mk hy324
              clear hy324
              replace H := Option.bind_eq_some_iff.mp H
              obtain ⟨t327, A480, H⟩ := H
              replace H : ((disk_Crash.f x300000_2 x300001_2 t327).bind fun bt328 => ((journal_Open.f k2 bt328.1 bt328.2).bind fun bt334 => (if bt334.2.2.2.1 = true then (customslaw34_JournalCrash.j2 k2 bt334.2.2.2.2 true bt334.1 bt334.2.1) else (if (bt334.2.2.2.2.length : Int) < (t293.length : Int) then (customslaw34_JournalCrash.j2 k2 bt334.2.2.2.2 true bt334.1 bt334.2.1) else (if (bt334.2.2.2.2.length : Int) > (y324.length : Int) then (customslaw34_JournalCrash.j2 k2 bt334.2.2.2.2 true bt334.1 bt334.2.1) else (if 0 ≤ (bt334.2.2.2.2.length : Int) then (if (bt334.2.2.2.2.length : Int) ≤ (y324.length : Int) then ((customsref33_SameRecords.f k2 bt334.2.2.2.2 (y324.take ((bt334.2.2.2.2.length : Int) : Int).toNat)).bind fun t353 => (customslaw34_JournalCrash.j2 k2 bt334.2.2.2.2 (!t353) bt334.1 bt334.2.1)) else (none)) else (none))))))) = some true := H
              have A48 := Aside0.mk A480
              clear A480
              replace H := Option.bind_eq_some_iff.mp H
              obtain ⟨⟨t328, t331⟩, A490, H⟩ := H
              replace H : ((journal_Open.f k2 t328 t331).bind fun bt334 => (if bt334.2.2.2.1 = true then (customslaw34_JournalCrash.j2 k2 bt334.2.2.2.2 true bt334.1 bt334.2.1) else (if (bt334.2.2.2.2.length : Int) < (t293.length : Int) then (customslaw34_JournalCrash.j2 k2 bt334.2.2.2.2 true bt334.1 bt334.2.1) else (if (bt334.2.2.2.2.length : Int) > (y324.length : Int) then (customslaw34_JournalCrash.j2 k2 bt334.2.2.2.2 true bt334.1 bt334.2.1) else (if 0 ≤ (bt334.2.2.2.2.length : Int) then (if (bt334.2.2.2.2.length : Int) ≤ (y324.length : Int) then ((customsref33_SameRecords.f k2 bt334.2.2.2.2 (y324.take ((bt334.2.2.2.2.length : Int) : Int).toNat)).bind fun t353 => (customslaw34_JournalCrash.j2 k2 bt334.2.2.2.2 (!t353) bt334.1 bt334.2.1)) else (none)) else (none)))))) = some true := H
              have A49 := Aside0.mk A490
              clear A490
              replace H := Option.bind_eq_some_iff.mp H
              obtain ⟨⟨t334, t337, t340, t343, t344⟩, A500, H⟩ := H
              replace H : (if t343 = true then (customslaw34_JournalCrash.j2 k2 t344 true t334 t337) else (if (t344.length : Int) < (t293.length : Int) then (customslaw34_JournalCrash.j2 k2 t344 true t334 t337) else (if (t344.length : Int) > (y324.length : Int) then (customslaw34_JournalCrash.j2 k2 t344 true t334 t337) else (if 0 ≤ (t344.length : Int) then (if (t344.length : Int) ≤ (y324.length : Int) then ((customsref33_SameRecords.f k2 t344 (y324.take ((t344.length : Int) : Int).toNat)).bind fun t353 => (customslaw34_JournalCrash.j2 k2 t344 (!t353) t334 t337)) else (none)) else (none))))) = some true := H
              have A50 := Aside0.mk A500
              clear A500
              have HC51 := Aside0.mk H
              clear H
              obtain ⟨Ao52, co52, eo52⟩ := Kd.N_slice HO_1.out
              subst eo52
              try go_wp2_with (first | ((with_reducible refine gate_dst (N := 66) rfl ?_); (try (refine gate_guard (by rfl) ?_; dsimp only)); refine Kd.N_lit (Kd.slice 5 (Kd.int .u8)) _ 22 ?hg (N' := 66) ?hd (xs := ([] : List (List Int))) (inner := []) (ok := (fun k_ => some k_ ≠ (.slice Ao27 t293.length co27 : Value).ownBlock ∧ some k_ ≠ (.slice Ao52 t296.length co52 : Value).ownBlock ∧ some k_ ≠ (u300000 : Value).ownBlock ∧ some k_ ≠ (u300001 : Value).ownBlock ∧ k_ ≠ gb299)) (okp := (fun k_ => some k_ ≠ (.slice Ao27 t293.length co27 : Value).ownBlock ∧ some k_ ≠ (.slice Ao52 t296.length co52 : Value).ownBlock ∧ some k_ ≠ (u300000 : Value).ownBlock ∧ some k_ ≠ (u300001 : Value).ownBlock ∧ k_ ≠ gb299)) ?hr ?hp (fun _ hk => hk) ((show ∀ k_, wr.heap.size ≤ k_ → (fun k_ => some k_ ≠ (.slice Ao27 t293.length co27 : Value).ownBlock ∧ some k_ ≠ (.slice Ao52 t296.length co52 : Value).ownBlock ∧ some k_ ≠ (u300000 : Value).ownBlock ∧ some k_ ≠ (u300001 : Value).ownBlock ∧ k_ ≠ gb299) k_ from fun k_ hk => ⟨Kd.fresh' (Kd.N_lt (HO_0.out)) k_ hk, Kd.fresh' (Kd.N_lt (HO_1.out)) k_ hk, Kd.fresh' (Kd.R_lt (HO_300000.out)) k_ hk, Kd.fresh' (Kd.R_lt (HO_300001.out)) k_ hk, Kd.freshB BK299.out k_ hk⟩) _ (Nat.le_refl _)) (Below.refl _ _) (Nat.le_refl _) (by simp) ?_; (case hd => rfl); (case hg => rfl); (case hr => first | (go_simp; done) | (go_simp; rfl)); (case hp => exact (Reps.none _ _)); intro v319 w53 ho54 hb hg_ hnew_; clear hg_ hnew_; (first | rw [← Ny318.out] at ho54 | (simp only [Int.reduceToNat] at ho54; rw [← Ny318.out] at ho54)); have n0_ := Aside0.mk (Kd.N_elder' (by exact pN HO_0.out) (by first | exact Kd.N_base ho54 | exact Kd.S_base ho54 | exact Kd.R_base ho54 | exact Kd.Q_base ho54) hb); have n1_ := Aside0.mk (Kd.N_elder' (by exact pN HO_1.out) (by first | exact Kd.N_base ho54 | exact Kd.S_base ho54 | exact Kd.R_base ho54 | exact Kd.Q_base ho54) hb); have n2_ := Aside0.mk (Kd.R_below (by exact pR HO_300000.out) hb); have n3_ := Aside0.mk (Kd.R_below (by exact pR HO_300001.out) hb); have n4_ := Aside0.mk (Kd.N_lower ho54 (below_size (by exact pB HB.out))); have n5_ := Aside0.mk (blk_below (g := gb299) (o := .cells #[u300000, u300001] 24 (0, 0)) (by exact pK BK299.out) hb); have n6_ := Aside0.mk (below_step (by exact pB HB.out) hb); clear HO_0; clear HO_1; clear HO_300000; clear HO_300001; clear BK299; clear HB; have HO_0 := n0_; have HO_1 := n1_; have HO_300000 := n2_; have HO_300001 := n3_; have HO320 := n4_; have BK299 := n5_; have HB := n6_; clear n0_ n1_ n2_ n3_ n4_ n5_ n6_; clear hb ho54) | ((with_reducible refine gate_builtin (b := .append) (xs := #[.tmp 66, .tmp 67]) rfl ?_); (try (refine gate_guard (by rfl) ?_; dsimp only)); at_builtin; refine Kd.N_append_rows (Kd.slice 5 (Kd.int .u8)) (w0 := w) w.heap.size rfl (.tmp 66) (.tmp 67) 34 22 (.slice none 0 0) 24 rfl Try.underlying34 info22 rfl (by decide) (by omega) v319 y318 t293 _ _ _ (fun k_ => some k_ ≠ (.slice Ao52 t296.length co52 : Value).ownBlock ∧ some k_ ≠ (u300000 : Value).ownBlock ∧ some k_ ≠ (u300001 : Value).ownBlock ∧ k_ ≠ gb299) (fun k_ => ((fun k_ => some k_ ≠ (.slice Ao52 t296.length co52 : Value).ownBlock ∧ some k_ ≠ (u300000 : Value).ownBlock ∧ some k_ ≠ (u300001 : Value).ownBlock ∧ k_ ≠ gb299)) k_ ∧ some k_ ≠ (v319 : Value).ownBlock) rfl rfl ?aO ?aR (fun _ hk => hk) ?aF ?aB ?aS ?aL ?_; (case aR => exact (by skip; exact Kd.N_F (Kd.N_mono (ok' := (fun k_ => ((fun k_ => some k_ ≠ (.slice Ao52 t296.length co52 : Value).ownBlock ∧ some k_ ≠ (u300000 : Value).ownBlock ∧ some k_ ≠ (u300001 : Value).ownBlock ∧ k_ ≠ gb299)) k_ ∧ some k_ ≠ (v319 : Value).ownBlock)) (HO_0.out) (fun k_ hk => ⟨⟨hk.1.1, ⟨hk.1.2.1, ⟨hk.1.2.2.1, hk.1.2.2.2⟩⟩⟩, hk.2⟩)))); (case aB => exact (by exact pB HB.out)); (case aF => exact (fun k_ hk => ⟨Kd.fresh' (Kd.N_lt (by exact pN HO_1.out)) k_ hk, Kd.fresh' (Kd.R_lt (by exact pR HO_300000.out)) k_ hk, Kd.fresh' (Kd.R_lt (by exact pR HO_300001.out)) k_ hk, Kd.freshB (g := gb299) (o := .cells #[u300000, u300001] 24 (0, 0)) (by exact pK BK299.out) k_ hk⟩)); (case aO => exact (by exact pN (Kd.N_mono HO320.out (fun _ hk => ⟨hk.2.1, ⟨hk.2.2.1, ⟨hk.2.2.2.1, hk.2.2.2.2⟩⟩⟩)))); (case aS => exact (below_size (by exact pB HB.out))); (case aL => have := LMc46.out; omega); intro v322 w55 ho hb hg hat; rw [← Ny321.out] at ho; have n0_ := Aside0.mk (Kd.N_afterv (ok := (fun k_ => some k_ ≠ (.slice Ao52 t296.length co52 : Value).ownBlock ∧ some k_ ≠ (u300000 : Value).ownBlock ∧ some k_ ≠ (u300001 : Value).ownBlock ∧ k_ ≠ gb299)) (by exact pN HO_0.out) hg hat); have n1_ := Aside0.mk (Kd.N_afterv (ok := (fun k_ => some k_ ≠ (.slice Ao27 t293.length co27 : Value).ownBlock ∧ some k_ ≠ (u300000 : Value).ownBlock ∧ some k_ ≠ (u300001 : Value).ownBlock ∧ k_ ≠ gb299)) (by exact pN HO_1.out) hg hat); have n2_ := Aside0.mk (Kd.R_over' (by exact pR HO_300000.out) (Kd.N_typed (by exact pN HO320.out)) (by decide) hg); have n3_ := Aside0.mk (Kd.R_over' (by exact pR HO_300001.out) (Kd.N_typed (by exact pN HO320.out)) (by decide) hg); have n4_ := Aside0.mk (blk_grown (g := gb299) (o := .cells #[u300000, u300001] 24 (0, 0)) (by exact pK BK299.out) hg (Kd.N_ne HO320.out BK299.out (by decide))); have n5_ := Aside0.mk (hb); have n6_ := Aside0.mk (ho); clear HO_0; clear HO_1; clear HO_300000; clear HO_300001; clear BK299; clear HB; clear HO320; have HO_0 := n0_; have HO_1 := n1_; have HO_300000 := n2_; have HO_300001 := n3_; have BK299 := n4_; have HB := n5_; have HO323 := n6_; clear n0_ n1_ n2_ n3_ n4_ n5_ n6_; clear ho hb hg hat) | ((with_reducible refine gate_builtin (b := .append) (xs := #[.tmp 68, .tmp 69]) rfl ?_); (try (refine gate_guard (by rfl) ?_; dsimp only)); at_builtin; refine Kd.N_append_rows (Kd.slice 5 (Kd.int .u8)) (w0 := w) w.heap.size rfl (.tmp 68) (.tmp 69) 34 22 (.slice none 0 0) 24 rfl Try.underlying34 info22 rfl (by decide) (by omega) v322 y321 t296 _ _ _ (fun k_ => some k_ ≠ (u300000 : Value).ownBlock ∧ some k_ ≠ (u300001 : Value).ownBlock ∧ k_ ≠ gb299) (fun k_ => ((fun k_ => some k_ ≠ (u300000 : Value).ownBlock ∧ some k_ ≠ (u300001 : Value).ownBlock ∧ k_ ≠ gb299)) k_ ∧ some k_ ≠ (v322 : Value).ownBlock) rfl rfl ?aO ?aR (fun _ hk => hk) ?aF ?aB ?aS ?aL ?_; (case aR => exact (by skip; exact Kd.N_F (Kd.N_mono (ok' := (fun k_ => ((fun k_ => some k_ ≠ (u300000 : Value).ownBlock ∧ some k_ ≠ (u300001 : Value).ownBlock ∧ k_ ≠ gb299)) k_ ∧ some k_ ≠ (v322 : Value).ownBlock)) (HO_1.out) (fun k_ hk => ⟨⟨hk.1.2.1, ⟨hk.1.2.2.1, hk.1.2.2.2⟩⟩, hk.2⟩)))); (case aB => exact (by exact pB HB.out)); (case aF => exact (fun k_ hk => ⟨Kd.fresh' (Kd.R_lt (by exact pR HO_300000.out)) k_ hk, Kd.fresh' (Kd.R_lt (by exact pR HO_300001.out)) k_ hk, Kd.freshB (g := gb299) (o := .cells #[u300000, u300001] 24 (0, 0)) (by exact pK BK299.out) k_ hk⟩)); (case aO => exact (by exact pN (Kd.N_mono HO323.out (fun _ hk => ⟨hk.2.1, ⟨hk.2.2.1, hk.2.2.2⟩⟩)))); (case aS => exact (below_size (by exact pB HB.out))); (case aL => have := LMc47.out; omega); intro v325 w56 ho hb hg hat; rw [← Ny324.out] at ho; have n0_ := Aside0.mk (Kd.N_afterv (ok := (fun k_ => some k_ ≠ (.slice Ao52 t296.length co52 : Value).ownBlock ∧ some k_ ≠ (u300000 : Value).ownBlock ∧ some k_ ≠ (u300001 : Value).ownBlock ∧ k_ ≠ gb299)) (by exact pN HO_0.out) hg hat); have n1_ := Aside0.mk (Kd.N_afterv (ok := (fun k_ => some k_ ≠ (.slice Ao27 t293.length co27 : Value).ownBlock ∧ some k_ ≠ (u300000 : Value).ownBlock ∧ some k_ ≠ (u300001 : Value).ownBlock ∧ k_ ≠ gb299)) (by exact pN HO_1.out) hg hat); have n2_ := Aside0.mk (Kd.R_over' (by exact pR HO_300000.out) (Kd.N_typed (by exact pN HO323.out)) (by decide) hg); have n3_ := Aside0.mk (Kd.R_over' (by exact pR HO_300001.out) (Kd.N_typed (by exact pN HO323.out)) (by decide) hg); have n4_ := Aside0.mk (blk_grown (g := gb299) (o := .cells #[u300000, u300001] 24 (0, 0)) (by exact pK BK299.out) hg (Kd.N_ne HO323.out BK299.out (by decide))); have n5_ := Aside0.mk (hb); have n6_ := Aside0.mk (ho); clear HO_0; clear HO_1; clear HO_300000; clear HO_300001; clear BK299; clear HB; clear HO323; have HO_0 := n0_; have HO_1 := n1_; have HO_300000 := n2_; have HO_300001 := n3_; have BK299 := n4_; have HB := n5_; have HO326 := n6_; clear n0_ n1_ n2_ n3_ n4_ n5_ n6_; clear ho hb hg hat; obtain ⟨Ao57, co57, eo57⟩ := Kd.R_slice HO_300000.out; subst eo57; obtain ⟨Ao58, co58, eo58⟩ := Kd.R_slice HO_300001.out; subst eo58))
              have n0_ := Aside0.mk (Kd.N_drew HO_0.out)
              have n1_ := Aside0.mk (Kd.N_drew HO_1.out)
              have n2_ := Aside0.mk (Kd.R_drew HO_300000.out)
              have n3_ := Aside0.mk (Kd.R_drew HO_300001.out)
              have n4_ := Aside0.mk (Kd.N_drew HO326.out)
              have n5_ := Aside0.mk (blk_drew BK299.out)
              have n6_ := Aside0.mk (below_drew1 HB.out)
              clear HO_0
              clear HO_1
              clear HO_300000
              clear HO_300001
              clear HO326
              clear BK299
              clear HB
              have HO_0 := n0_
              have HO_1 := n1_
              have HO_300000 := n2_
              have HO_300001 := n3_
              have HO326 := n4_
              have BK299 := n5_
              have HB := n6_
              clear n0_ n1_ n2_ n3_ n4_ n5_ n6_
              refine start_ (n := 15) (S := fun w' => w'.cell? ⟨gb299, 0, none⟩ = some (.slice Ao57 x300000_2.length co57) ∧ w'.cell? ⟨gb299, 1, none⟩ = some (.slice Ao58 x300001_2.length co58)) (ds := []) #[false, false, false, false, false, false, false, false, false, false, false, false, false, false, false] (by kernel_rfl) rfl rfl ⟨(blk_cell BK299.out 0).trans rfl, (blk_cell BK299.out 1).trans rfl⟩ (fun hHeld => ?_); refine with_tabW customslaw34_JournalCrash.tab18 customslaw34_JournalCrash.bits18 (fun HT_ HW_ => ?_)
              generalize w56.drew = w59 at HO_0 HO_1 HO_300000 HO_300001 HO326 BK299 HB hHeld ⊢
              refine pure_ (i := 1) (N := some 73) (v := ?_) (a' := ?_) #[false, true, false, false, false, false, false, false, false, false, false, false, false, false, false] rfl rfl (any_of HT_.out (by kernel_rfl)) (fun _ _ _ h => h) (Or.inl ⟨by rfl, ?_⟩) ?_ ?_
              rotate_left
              · intro w'
                go_simp
                with_reducible rfl
              rotate_left
              · simp only [Act.put, List.setIfInBounds_toArray, List.set_cons_zero, List.set_cons_succ, i64_w, i32_w]
                rfl
              refine take_ (i := 0) (N := some 72) (v := ?_) (a' := ?_) #[true, true, false, false, false, false, false, false, false, false, false, false, false, false, false] rfl rfl (take_ofW HT_.out HW_.out (by kernel_rfl)) (fun _ _ _ h => h) (Or.inl ⟨by rfl, ?_⟩) hHeld ?_ ?_
              rotate_left
              · rintro w' ⟨s0, s1⟩
                go_simp
                with_reducible rfl
              rotate_left
              · simp only [Act.put, List.setIfInBounds_toArray, List.set_cons_zero, List.set_cons_succ, i64_w, i32_w]
                rfl
              refine join_ (σ := Value × Value × Value × Value × Value × Value × Nat) 4 #[true, true, true, true, true, true, true, true, true, true, true, false, false, false, false] (fun s_ => [(74, .int .i64 t327), (75, .agg #[s_.1, s_.2.1]), (76, .tuple #[.agg #[s_.2.2.1, s_.2.2.2.1], s_.2.2.2.2.1, .bool t343, s_.2.2.2.2.2.1]), (15, .pointer (some ⟨s_.2.2.2.2.2.2, 0, none⟩)), (71, .tuple #[.agg #[s_.2.2.1, s_.2.2.2.1], s_.2.2.2.2.1, .bool t343, s_.2.2.2.2.2.1]), (77, .agg #[s_.2.2.1, s_.2.2.2.1]), (78, s_.2.2.2.2.1), (79, .bool t343), (80, s_.2.2.2.2.2.1)]) (fun s_ w' => (w'.cell? ⟨gb299, 0, none⟩ = some (.slice Ao57 x300000_2.length co57) ∧ w'.cell? ⟨gb299, 1, none⟩ = some (.slice Ao58 x300001_2.length co58)) ∧ (Kd.N (Kd.slice 5 (Kd.int .u8)) 22 w' w.heap.size (fun k_ => some k_ ≠ (s_.1 : Value).ownBlock ∧ some k_ ≠ (s_.2.1 : Value).ownBlock ∧ some k_ ≠ (s_.2.2.2.1 : Value).ownBlock ∧ some k_ ≠ (s_.2.2.2.2.2.1 : Value).ownBlock ∧ some k_ ≠ (.slice Ao57 x300000_2.length co57 : Value).ownBlock ∧ some k_ ≠ (.slice Ao58 x300001_2.length co58 : Value).ownBlock ∧ k_ ≠ gb299 ∧ k_ ≠ s_.2.2.2.2.2.2) v325 y324) ∧ (Kd.R (Kd.int .u8) 5 w' w.heap.size (fun k_ => some k_ ≠ (s_.2.1 : Value).ownBlock ∧ some k_ ≠ (s_.2.2.2.1 : Value).ownBlock ∧ some k_ ≠ (.slice Ao57 x300000_2.length co57 : Value).ownBlock ∧ some k_ ≠ (.slice Ao58 x300001_2.length co58 : Value).ownBlock) s_.1 t328) ∧ (Kd.R (Kd.int .u8) 5 w' w.heap.size (fun k_ => some k_ ≠ (s_.1 : Value).ownBlock ∧ some k_ ≠ (s_.2.2.2.1 : Value).ownBlock ∧ some k_ ≠ (.slice Ao57 x300000_2.length co57 : Value).ownBlock ∧ some k_ ≠ (.slice Ao58 x300001_2.length co58 : Value).ownBlock) s_.2.1 t331) ∧ (Kd.V (Kd.int .u8) 5 w' w.heap.size (fun k_ => some k_ ≠ (v325 : Value).ownBlock ∧ some k_ ≠ (s_.1 : Value).ownBlock ∧ some k_ ≠ (s_.2.1 : Value).ownBlock ∧ some k_ ≠ (s_.2.2.2.1 : Value).ownBlock ∧ some k_ ≠ (s_.2.2.2.2.2.1 : Value).ownBlock ∧ some k_ ≠ (.slice Ao27 t293.length co27 : Value).ownBlock ∧ some k_ ≠ (.slice Ao52 t296.length co52 : Value).ownBlock ∧ some k_ ≠ (.slice Ao57 x300000_2.length co57 : Value).ownBlock ∧ some k_ ≠ (.slice Ao58 x300001_2.length co58 : Value).ownBlock ∧ k_ ≠ gb299 ∧ k_ ≠ s_.2.2.2.2.2.2) s_.2.2.1 t334) ∧ (Kd.R (Kd.int .u8) 5 w' w.heap.size (fun k_ => some k_ ≠ (s_.1 : Value).ownBlock ∧ some k_ ≠ (s_.2.1 : Value).ownBlock ∧ some k_ ≠ (.slice Ao57 x300000_2.length co57 : Value).ownBlock ∧ some k_ ≠ (.slice Ao58 x300001_2.length co58 : Value).ownBlock) s_.2.2.2.1 t337) ∧ (Kd.V (Kd.int .u8) 5 w' w.heap.size (fun k_ => some k_ ≠ (v325 : Value).ownBlock ∧ some k_ ≠ (s_.1 : Value).ownBlock ∧ some k_ ≠ (s_.2.1 : Value).ownBlock ∧ some k_ ≠ (s_.2.2.2.1 : Value).ownBlock ∧ some k_ ≠ (s_.2.2.2.2.2.1 : Value).ownBlock ∧ some k_ ≠ (.slice Ao27 t293.length co27 : Value).ownBlock ∧ some k_ ≠ (.slice Ao52 t296.length co52 : Value).ownBlock ∧ some k_ ≠ (.slice Ao57 x300000_2.length co57 : Value).ownBlock ∧ some k_ ≠ (.slice Ao58 x300001_2.length co58 : Value).ownBlock ∧ k_ ≠ gb299 ∧ k_ ≠ s_.2.2.2.2.2.2) s_.2.2.2.2.1 t340) ∧ (Kd.N (Kd.slice 5 (Kd.int .u8)) 22 w' w.heap.size (fun k_ => some k_ ≠ (v325 : Value).ownBlock ∧ some k_ ≠ (s_.1 : Value).ownBlock ∧ some k_ ≠ (s_.2.1 : Value).ownBlock ∧ some k_ ≠ (s_.2.2.2.1 : Value).ownBlock ∧ some k_ ≠ (.slice Ao27 t293.length co27 : Value).ownBlock ∧ some k_ ≠ (.slice Ao52 t296.length co52 : Value).ownBlock ∧ some k_ ≠ (.slice Ao57 x300000_2.length co57 : Value).ownBlock ∧ some k_ ≠ (.slice Ao58 x300001_2.length co58 : Value).ownBlock ∧ k_ ≠ gb299 ∧ k_ ≠ s_.2.2.2.2.2.2) s_.2.2.2.2.2.1 t344) ∧ (Kd.N (Kd.slice 5 (Kd.int .u8)) 22 w' w.heap.size (fun k_ => some k_ ≠ (v325 : Value).ownBlock ∧ some k_ ≠ (s_.1 : Value).ownBlock ∧ some k_ ≠ (s_.2.1 : Value).ownBlock ∧ some k_ ≠ (s_.2.2.2.1 : Value).ownBlock ∧ some k_ ≠ (s_.2.2.2.2.2.1 : Value).ownBlock ∧ some k_ ≠ (.slice Ao52 t296.length co52 : Value).ownBlock ∧ some k_ ≠ (.slice Ao57 x300000_2.length co57 : Value).ownBlock ∧ some k_ ≠ (.slice Ao58 x300001_2.length co58 : Value).ownBlock ∧ k_ ≠ gb299 ∧ k_ ≠ s_.2.2.2.2.2.2) (.slice Ao27 t293.length co27) t293) ∧ (Kd.N (Kd.slice 5 (Kd.int .u8)) 22 w' w.heap.size (fun k_ => some k_ ≠ (v325 : Value).ownBlock ∧ some k_ ≠ (s_.1 : Value).ownBlock ∧ some k_ ≠ (s_.2.1 : Value).ownBlock ∧ some k_ ≠ (s_.2.2.2.1 : Value).ownBlock ∧ some k_ ≠ (s_.2.2.2.2.2.1 : Value).ownBlock ∧ some k_ ≠ (.slice Ao27 t293.length co27 : Value).ownBlock ∧ some k_ ≠ (.slice Ao57 x300000_2.length co57 : Value).ownBlock ∧ some k_ ≠ (.slice Ao58 x300001_2.length co58 : Value).ownBlock ∧ k_ ≠ gb299 ∧ k_ ≠ s_.2.2.2.2.2.2) (.slice Ao52 t296.length co52) t296) ∧ (Kd.R (Kd.int .u8) 5 w' w.heap.size (fun k_ => some k_ ≠ (s_.1 : Value).ownBlock ∧ some k_ ≠ (s_.2.1 : Value).ownBlock ∧ some k_ ≠ (s_.2.2.2.1 : Value).ownBlock ∧ some k_ ≠ (.slice Ao58 x300001_2.length co58 : Value).ownBlock) (.slice Ao57 x300000_2.length co57) x300000_2) ∧ (Kd.R (Kd.int .u8) 5 w' w.heap.size (fun k_ => some k_ ≠ (s_.1 : Value).ownBlock ∧ some k_ ≠ (s_.2.1 : Value).ownBlock ∧ some k_ ≠ (s_.2.2.2.1 : Value).ownBlock ∧ some k_ ≠ (.slice Ao57 x300000_2.length co57 : Value).ownBlock) (.slice Ao58 x300001_2.length co58) x300001_2) ∧ (w'.heap[gb299]? = some (.cells #[.slice Ao57 x300000_2.length co57, .slice Ao58 x300001_2.length co58] 24 (0, 0))) ∧ (w'.heap[s_.2.2.2.2.2.2]? = some (.cells #[.slice none 0 0, .slice none 0 0] 24 (0, 0))) ∧ (w.heap.size ≤ s_.2.2.2.2.2.2) ∧ (w.heap.size ≤ s_.2.2.2.2.2.2) ∧ (gb299 ≠ s_.2.2.2.2.2.2) ∧ (s_.2.2.2.2.2.2 ≠ gb299) ∧ (Below w.heap.size w w')) ?_ ?_
              rotate_left
              · intro hCont
                refine two_ (i := 2) (j := 10) (Ni := some 74) (Nj := some 15) #[true, true, true, false, false, false, false, false, false, false, false, false, false, false, false] #[true, true, false, false, false, false, false, false, false, false, true, false, false, false, false] rfl rfl rfl rfl (two_of HT_.out (by kernel_rfl)) (by decide) (by decide) (fun K hK => ?_) (fun K hK => ?_)
                · skip
                  refine goes_ Try.func23 (by kernel_rfl) rfl #[.int .i64 a2, .int .i64 5000] (by rfl) rfl rfl (by (try simp only [List.map_toArray, List.map_cons, List.map_nil]); first | done | rfl | (simp only [List.length_drop, List.length_take]; rfl)) ?_
                  with_reducible refine (customsmade_Within.calls a2 5000 t327 _ A48.out).mono ?_
                  rintro e w' ⟨rfl, ⟨nd, rfl⟩⟩
                  refine ⟨_, rfl, ?_⟩
                  refine hK.out _ _ ⟨(blk_cell BK299.out 0).trans rfl, (blk_cell BK299.out 1).trans rfl⟩ (fun hHeld => ?_)
                  clear hK K
                  refine norm_ (a' := ?_) ?_ ?_
                  rotate_left
                  · show Act.put _ (some 74) _ = _
                    simp only [Act.put, List.setIfInBounds_toArray, List.set_cons_zero, List.set_cons_succ, i64_w, i32_w]
                    rfl
                  refine two_ (i := 3) (j := 10) (Ni := some 75) (Nj := some 15) #[true, true, true, true, false, false, false, false, false, false, false, false, false, false, false] #[true, true, true, false, false, false, false, false, false, false, true, false, false, false, false] rfl rfl rfl rfl (two_of HT_.out (by kernel_rfl)) (by decide) (by decide) (fun K hK => ?_) (fun K hK => ?_)
                  · skip
                    refine goes_ Try.func21 (by kernel_rfl) rfl #[.agg #[.slice Ao57 x300000_2.length co57, .slice Ao58 x300001_2.length co58], .int .i64 t327] (by rfl) rfl rfl (by (try simp only [List.map_toArray, List.map_cons, List.map_nil]); first | done | rfl | (simp only [List.length_drop, List.length_take]; rfl)) ?_
                    with_reducible refine (disk_Crash.calls _ _ x300000_2 _ _ x300001_2 t327 t328 t331 _ ?side1 ?side2 ?side3 ?side4 A49.out).mono ?_
                    (case side1 => exact pC (Kd.R_reads' HO_300000.out).2.2)
                    (case side2 => exact (Kd.R_reads' HO_300000.out).2.1)
                    (case side3 => exact pC (Kd.R_reads' HO_300001.out).2.2)
                    (case side4 => exact (Kd.R_reads' HO_300001.out).2.1)
                    rintro e w60 ⟨v329, v332, rfl, ho0, ho1, hb⟩
                    refine ⟨_, rfl, ?_⟩
                    have n0_ := Aside0.mk (Kd.N_mono (Kd.N_told (Kd.N_told (Kd.N_old (by exact pN HO_0.out) hb) (Kd.R_base ho0)) (Kd.R_base ho1)) (fun _ h_ => h_.1))
                    have n1_ := Aside0.mk (Kd.N_mono (Kd.N_told (Kd.N_told (Kd.N_old (by exact pN HO_1.out) hb) (Kd.R_base ho0)) (Kd.R_base ho1)) (fun _ h_ => h_.1))
                    have n2_ := Aside0.mk (Kd.R_mono (Kd.R_told (Kd.R_told (Kd.R_old (by exact pR HO_300000.out) hb) (Kd.R_base ho0)) (Kd.R_base ho1)) (fun _ h_ => h_.1))
                    have n3_ := Aside0.mk (Kd.R_mono (Kd.R_told (Kd.R_told (Kd.R_old (by exact pR HO_300001.out) hb) (Kd.R_base ho0)) (Kd.R_base ho1)) (fun _ h_ => h_.1))
                    have n4_ := Aside0.mk (Kd.N_mono (Kd.N_told (Kd.N_told (Kd.N_old (by exact pN HO326.out) hb) (Kd.R_base ho0)) (Kd.R_base ho1)) (fun _ h_ => h_.1))
                    have n5_ := Aside0.mk (Kd.R_lower (Kd.R_new' (Kd.R_new' ho0 (Kd.R_lt (by exact pR HO_300000.out))) (Kd.R_lt (by exact pR HO_300001.out))) (below_size (by exact pB HB.out)))
                    have n6_ := Aside0.mk (Kd.R_lower (Kd.R_new' (Kd.R_new' ho1 (Kd.R_lt (by exact pR HO_300000.out))) (Kd.R_lt (by exact pR HO_300001.out))) (below_size (by exact pB HB.out)))
                    have n7_ := Aside0.mk (blk_below (g := gb299) (o := .cells #[.slice Ao57 x300000_2.length co57, .slice Ao58 x300001_2.length co58] 24 (0, 0)) (by exact pK BK299.out) hb)
                    have n8_ := Aside0.mk (below_step (by exact pB HB.out) hb)
                    clear HO_0
                    clear HO_1
                    clear HO_300000
                    clear HO_300001
                    clear HO326
                    clear BK299
                    clear HB
                    have HO_0 := n0_
                    have HO_1 := n1_
                    have HO_300000 := n2_
                    have HO_300001 := n3_
                    have HO326 := n4_
                    have HO330 := n5_
                    have HO333 := n6_
                    have BK299 := n7_
                    have HB := n8_
                    clear n0_ n1_ n2_ n3_ n4_ n5_ n6_ n7_ n8_
                    (try clear hb)
                    (try clear hb2)
                    (try clear hk)
                    (try clear hi)
                    (try clear ho0)
                    (try clear ho1)
                    obtain ⟨Ao61, co61, eo61⟩ := Kd.R_slice HO330.out
                    (first | subst eo61 | (injection eo61 with f1_ f2_ f3_; have f4_ := f1_.symm; have f5_ := f3_.symm; clear f1_ f2_ f3_; subst f4_; subst f5_))
                    obtain ⟨Ao62, co62, eo62⟩ := Kd.R_slice HO333.out
                    (first | subst eo62 | (injection eo62 with f1_ f2_ f3_; have f4_ := f1_.symm; have f5_ := f3_.symm; clear f1_ f2_ f3_; subst f4_; subst f5_))
                    refine hK.out _ _ ⟨(blk_cell BK299.out 0).trans rfl, (blk_cell BK299.out 1).trans rfl⟩ (fun hHeld => ?_)
                    clear hK K
                    refine norm_ (a' := ?_) ?_ ?_
                    rotate_left
                    · show Act.put _ (some 75) _ = _
                      simp only [Act.put, List.setIfInBounds_toArray, List.set_cons_zero, List.set_cons_succ, i64_w, i32_w]
                      rfl
                    refine two_ (i := 4) (j := 10) (Ni := some 76) (Nj := some 15) #[true, true, true, true, true, false, false, false, false, false, false, false, false, false, false] #[true, true, true, true, false, false, false, false, false, false, true, false, false, false, false] rfl rfl rfl rfl (two_of HT_.out (by kernel_rfl)) (by decide) (by decide) (fun K hK => ?_) (fun K hK => ?_)
                    · skip
                      refine goes_ Try.func38 (by kernel_rfl) rfl #[.agg #[.slice Ao61 t328.length co61, .slice Ao62 t331.length co62]] (by rfl) rfl rfl (by (try simp only [List.map_toArray, List.map_cons, List.map_nil]); first | done | rfl | (simp only [List.length_drop, List.length_take]; rfl)) ?_
                      with_reducible refine (journal_Open.calls k2 _ _ t328 _ _ t331 t334 t337 t340 t343 t344 _ ?side1 ?side2 ?side3 ?side4 A50.out).mono ?_
                      (case side1 => exact pC (Kd.R_reads' HO330.out).2.2)
                      (case side2 => exact (Kd.R_reads' HO330.out).2.1)
                      (case side3 => exact pC (Kd.R_reads' HO333.out).2.2)
                      (case side4 => exact (Kd.R_reads' HO333.out).2.1)
                      rintro e w63 ⟨v335, v338, v341, v345, rfl, ho0, ho1, ho2, ho3, hb⟩
                      refine ⟨_, rfl, ?_⟩
                      have n0_ := Aside0.mk (Kd.N_mono (Kd.N_told (Kd.N_told (Kd.N_old (by exact pN HO_0.out) hb) (Kd.R_base ho1)) (Kd.N_base ho3)) (fun _ h_ => h_.1))
                      have n1_ := Aside0.mk (Kd.N_mono (Kd.N_told (Kd.N_told (Kd.N_old (by exact pN HO_1.out) hb) (Kd.R_base ho1)) (Kd.N_base ho3)) (fun _ h_ => h_.1))
                      have n2_ := Aside0.mk (Kd.R_elder' (by exact pR HO_300000.out) (Kd.R_base ho1) hb)
                      have n3_ := Aside0.mk (Kd.R_elder' (by exact pR HO_300001.out) (Kd.R_base ho1) hb)
                      have n4_ := Aside0.mk (Kd.N_mono (Kd.N_told (Kd.N_told (Kd.N_old (by exact pN HO326.out) hb) (Kd.R_base ho1)) (Kd.N_base ho3)) (fun _ h_ => h_.1))
                      have n5_ := Aside0.mk (Kd.R_elder' (by exact pR HO330.out) (Kd.R_base ho1) hb)
                      have n6_ := Aside0.mk (Kd.R_elder' (by exact pR HO333.out) (Kd.R_base ho1) hb)
                      have n7_ := Aside0.mk (Kd.V_lower (Kd.V_mono (ok' := fun k_ => some k_ ≠ (v338 : Value).ownBlock ∧ some k_ ≠ (v345 : Value).ownBlock ∧ some k_ ≠ (.slice Ao27 t293.length co27 : Value).ownBlock ∧ some k_ ≠ (.slice Ao52 t296.length co52 : Value).ownBlock ∧ some k_ ≠ (.slice Ao57 x300000_2.length co57 : Value).ownBlock ∧ some k_ ≠ (.slice Ao58 x300001_2.length co58 : Value).ownBlock ∧ some k_ ≠ (v325 : Value).ownBlock ∧ some k_ ≠ (.slice Ao61 t328.length co61 : Value).ownBlock ∧ some k_ ≠ (.slice Ao62 t331.length co62 : Value).ownBlock ∧ k_ ≠ gb299) ho0 (fun k_ hk_ => ⟨hk_.2.1, hk_.2.2, (Kd.fresh' (Kd.N_lt (by exact pN HO_0.out)) k_ hk_.1), (Kd.fresh' (Kd.N_lt (by exact pN HO_1.out)) k_ hk_.1), (Kd.fresh' (Kd.R_lt (by exact pR HO_300000.out)) k_ hk_.1), (Kd.fresh' (Kd.R_lt (by exact pR HO_300001.out)) k_ hk_.1), (Kd.fresh' (Kd.N_lt (by exact pN HO326.out)) k_ hk_.1), (Kd.fresh' (Kd.R_lt (by exact pR HO330.out)) k_ hk_.1), (Kd.fresh' (Kd.R_lt (by exact pR HO333.out)) k_ hk_.1), (Kd.freshB (g := gb299) (o := .cells #[.slice Ao57 x300000_2.length co57, .slice Ao58 x300001_2.length co58] 24 (0, 0)) (by exact pK BK299.out) k_ hk_.1)⟩)) (below_size (by exact pB HB.out)))
                      have n8_ := Aside0.mk (Kd.R_lower (Kd.R_new' (Kd.R_new' (Kd.R_new' (Kd.R_new' (Kd.R_mono (ok' := fun k_ => True) ho1 (fun _ hk_ => trivial)) (Kd.R_lt (by exact pR HO_300000.out))) (Kd.R_lt (by exact pR HO_300001.out))) (Kd.R_lt (by exact pR HO330.out))) (Kd.R_lt (by exact pR HO333.out))) (below_size (by exact pB HB.out)))
                      have n9_ := Aside0.mk (Kd.V_lower (Kd.V_mono (ok' := fun k_ => some k_ ≠ (v338 : Value).ownBlock ∧ some k_ ≠ (v345 : Value).ownBlock ∧ some k_ ≠ (.slice Ao27 t293.length co27 : Value).ownBlock ∧ some k_ ≠ (.slice Ao52 t296.length co52 : Value).ownBlock ∧ some k_ ≠ (.slice Ao57 x300000_2.length co57 : Value).ownBlock ∧ some k_ ≠ (.slice Ao58 x300001_2.length co58 : Value).ownBlock ∧ some k_ ≠ (v325 : Value).ownBlock ∧ some k_ ≠ (.slice Ao61 t328.length co61 : Value).ownBlock ∧ some k_ ≠ (.slice Ao62 t331.length co62 : Value).ownBlock ∧ k_ ≠ gb299) ho2 (fun k_ hk_ => ⟨hk_.2.1, hk_.2.2, (Kd.fresh' (Kd.N_lt (by exact pN HO_0.out)) k_ hk_.1), (Kd.fresh' (Kd.N_lt (by exact pN HO_1.out)) k_ hk_.1), (Kd.fresh' (Kd.R_lt (by exact pR HO_300000.out)) k_ hk_.1), (Kd.fresh' (Kd.R_lt (by exact pR HO_300001.out)) k_ hk_.1), (Kd.fresh' (Kd.N_lt (by exact pN HO326.out)) k_ hk_.1), (Kd.fresh' (Kd.R_lt (by exact pR HO330.out)) k_ hk_.1), (Kd.fresh' (Kd.R_lt (by exact pR HO333.out)) k_ hk_.1), (Kd.freshB (g := gb299) (o := .cells #[.slice Ao57 x300000_2.length co57, .slice Ao58 x300001_2.length co58] 24 (0, 0)) (by exact pK BK299.out) k_ hk_.1)⟩)) (below_size (by exact pB HB.out)))
                      have n10_ := Aside0.mk (Kd.N_lower (Kd.N_mono (ok' := fun k_ => some k_ ≠ (v338 : Value).ownBlock ∧ some k_ ≠ (.slice Ao27 t293.length co27 : Value).ownBlock ∧ some k_ ≠ (.slice Ao52 t296.length co52 : Value).ownBlock ∧ some k_ ≠ (.slice Ao57 x300000_2.length co57 : Value).ownBlock ∧ some k_ ≠ (.slice Ao58 x300001_2.length co58 : Value).ownBlock ∧ some k_ ≠ (v325 : Value).ownBlock ∧ some k_ ≠ (.slice Ao61 t328.length co61 : Value).ownBlock ∧ some k_ ≠ (.slice Ao62 t331.length co62 : Value).ownBlock ∧ k_ ≠ gb299) ho3 (fun k_ hk_ => ⟨hk_.2, (Kd.fresh' (Kd.N_lt (by exact pN HO_0.out)) k_ hk_.1), (Kd.fresh' (Kd.N_lt (by exact pN HO_1.out)) k_ hk_.1), (Kd.fresh' (Kd.R_lt (by exact pR HO_300000.out)) k_ hk_.1), (Kd.fresh' (Kd.R_lt (by exact pR HO_300001.out)) k_ hk_.1), (Kd.fresh' (Kd.N_lt (by exact pN HO326.out)) k_ hk_.1), (Kd.fresh' (Kd.R_lt (by exact pR HO330.out)) k_ hk_.1), (Kd.fresh' (Kd.R_lt (by exact pR HO333.out)) k_ hk_.1), (Kd.freshB (g := gb299) (o := .cells #[.slice Ao57 x300000_2.length co57, .slice Ao58 x300001_2.length co58] 24 (0, 0)) (by exact pK BK299.out) k_ hk_.1)⟩)) (below_size (by exact pB HB.out)))
                      have n11_ := Aside0.mk (blk_below (g := gb299) (o := .cells #[.slice Ao57 x300000_2.length co57, .slice Ao58 x300001_2.length co58] 24 (0, 0)) (by exact pK BK299.out) hb)
                      have n12_ := Aside0.mk (below_step (by exact pB HB.out) hb)
                      clear HO_0
                      clear HO_1
                      clear HO_300000
                      clear HO_300001
                      clear HO326
                      clear HO330
                      clear HO333
                      clear BK299
                      clear HB
                      have HO_0 := n0_
                      have HO_1 := n1_
                      have HO_300000 := n2_
                      have HO_300001 := n3_
                      have HO326 := n4_
                      have HO330 := n5_
                      have HO333 := n6_
                      have HO336 := n7_
                      have HO339 := n8_
                      have HO342 := n9_
                      have HO346 := n10_
                      have BK299 := n11_
                      have HB := n12_
                      clear n0_ n1_ n2_ n3_ n4_ n5_ n6_ n7_ n8_ n9_ n10_ n11_ n12_
                      (try clear hb)
                      (try clear hb2)
                      (try clear hk)
                      (try clear hi)
                      (try clear ho0)
                      (try clear ho1)
                      (try clear ho2)
                      (try clear ho3)
                      refine hK.out _ _ ⟨(blk_cell BK299.out 0).trans rfl, (blk_cell BK299.out 1).trans rfl⟩ (fun hHeld => ?_)
                      clear hK K
                      refine norm_ (a' := ?_) ?_ ?_
                      rotate_left
                      · show Act.put _ (some 76) _ = _
                        simp only [Act.put, List.setIfInBounds_toArray, List.set_cons_zero, List.set_cons_succ, i64_w, i32_w]
                        rfl
                      refine pure_ (i := 5) (N := some 71) (v := ?_) (a' := ?_) #[true, true, true, true, true, true, false, false, false, false, false, false, false, false, false] rfl rfl (any_of HT_.out (by kernel_rfl)) (fun _ _ _ h => h) (Or.inl ⟨by rfl, ?_⟩) ?_ ?_
                      rotate_left
                      · intro w'
                        go_simp
                        with_reducible rfl
                      rotate_left
                      · simp only [Act.put, List.setIfInBounds_toArray, List.set_cons_zero, List.set_cons_succ, i64_w, i32_w]
                        rfl
                      refine pure_ (i := 6) (N := some 77) (v := ?_) (a' := ?_) #[true, true, true, true, true, true, true, false, false, false, false, false, false, false, false] rfl rfl (any_of HT_.out (by kernel_rfl)) (fun _ _ _ h => h) (Or.inl ⟨by rfl, ?_⟩) ?_ ?_
                      rotate_left
                      · intro w'
                        go_simp
                        with_reducible rfl
                      rotate_left
                      · simp only [Act.put, List.setIfInBounds_toArray, List.set_cons_zero, List.set_cons_succ, i64_w, i32_w]
                        rfl
                      refine pure_ (i := 7) (N := some 78) (v := ?_) (a' := ?_) #[true, true, true, true, true, true, true, true, false, false, false, false, false, false, false] rfl rfl (any_of HT_.out (by kernel_rfl)) (fun _ _ _ h => h) (Or.inl ⟨by rfl, ?_⟩) ?_ ?_
                      rotate_left
                      · intro w'
                        go_simp
                        with_reducible rfl
                      rotate_left
                      · simp only [Act.put, List.setIfInBounds_toArray, List.set_cons_zero, List.set_cons_succ, i64_w, i32_w]
                        rfl
                      refine pure_ (i := 8) (N := some 79) (v := ?_) (a' := ?_) #[true, true, true, true, true, true, true, true, true, false, false, false, false, false, false] rfl rfl (any_of HT_.out (by kernel_rfl)) (fun _ _ _ h => h) (Or.inl ⟨by rfl, ?_⟩) ?_ ?_
                      rotate_left
                      · intro w'
                        go_simp
                        with_reducible rfl
                      rotate_left
                      · simp only [Act.put, List.setIfInBounds_toArray, List.set_cons_zero, List.set_cons_succ, i64_w, i32_w]
                        rfl
                      refine pure_ (i := 9) (N := some 80) (v := ?_) (a' := ?_) #[true, true, true, true, true, true, true, true, true, true, false, false, false, false, false] rfl rfl (any_of HT_.out (by kernel_rfl)) (fun _ _ _ h => h) (Or.inl ⟨by rfl, ?_⟩) ?_ ?_
                      rotate_left
                      · intro w'
                        go_simp
                        with_reducible rfl
                      rotate_left
                      · simp only [Act.put, List.setIfInBounds_toArray, List.set_cons_zero, List.set_cons_succ, i64_w, i32_w]
                        rfl
                      refine one_ (i := 10) (N := some 15) #[true, true, true, true, true, true, true, true, true, true, true, false, false, false, false] rfl rfl (one_of HT_.out (by kernel_rfl)) (by decide) (fun K hK => ?_)
                      refine box_step ?hg (N := 15) ?hd (cs := #[.slice none 0 0, .slice none 0 0]) (t := 24) ?hr ?_; (case hd => rfl); (case hg => rfl); (case hr => first | (go_simp; done) | (go_simp; rfl))
                      intro gb347 hg w64 hbox hb
                      have n0_ := Aside0.mk (Kd.N_below (Kd.N_elderB (by exact pN HO_0.out) gb347 (Nat.le_of_eq hg.symm)) hb)
                      have n1_ := Aside0.mk (Kd.N_below (Kd.N_elderB (by exact pN HO_1.out) gb347 (Nat.le_of_eq hg.symm)) hb)
                      have n2_ := Aside0.mk (Kd.R_below (by exact pR HO_300000.out) hb)
                      have n3_ := Aside0.mk (Kd.R_below (by exact pR HO_300001.out) hb)
                      have n4_ := Aside0.mk (Kd.N_below (Kd.N_elderB (by exact pN HO326.out) gb347 (Nat.le_of_eq hg.symm)) hb)
                      have n5_ := Aside0.mk (Kd.R_below (by exact pR HO330.out) hb)
                      have n6_ := Aside0.mk (Kd.R_below (by exact pR HO333.out) hb)
                      have n7_ := Aside0.mk (Kd.V_below (Kd.V_elderB (by exact pV HO336.out) gb347 (Nat.le_of_eq hg.symm)) hb)
                      have n8_ := Aside0.mk (Kd.R_below (by exact pR HO339.out) hb)
                      have n9_ := Aside0.mk (Kd.V_below (Kd.V_elderB (by exact pV HO342.out) gb347 (Nat.le_of_eq hg.symm)) hb)
                      have n10_ := Aside0.mk (Kd.N_below (Kd.N_elderB (by exact pN HO346.out) gb347 (Nat.le_of_eq hg.symm)) hb)
                      have n11_ := Aside0.mk (blk_below (g := gb299) (o := .cells #[.slice Ao57 x300000_2.length co57, .slice Ao58 x300001_2.length co58] 24 (0, 0)) (by exact pK BK299.out) hb)
                      have n12_ := Aside0.mk (below_step (by exact pB HB.out) hb)
                      have n13_ := Aside0.mk (hbox)
                      have n14_ := Aside0.mk ((by rw [hg]; exact (below_size (by exact pB HB.out)) : w.heap.size ≤ gb347))
                      have n15_ := Aside0.mk ((by rw [hg]; exact (below_size (by exact pB HB.out)) : w.heap.size ≤ gb347))
                      have n16_ := Aside0.mk ((by rw [hg]; exact Nat.ne_of_lt (blk_lt (g := gb299) (o := .cells #[.slice Ao57 x300000_2.length co57, .slice Ao58 x300001_2.length co58] 24 (0, 0)) (by exact pK BK299.out)) : gb299 ≠ gb347))
                      have n17_ := Aside0.mk ((by rw [hg]; exact Nat.ne_of_gt (blk_lt (g := gb299) (o := .cells #[.slice Ao57 x300000_2.length co57, .slice Ao58 x300001_2.length co58] 24 (0, 0)) (by exact pK BK299.out)) : gb347 ≠ gb299))
                      clear HO_0
                      clear HO_1
                      clear HO_300000
                      clear HO_300001
                      clear HO326
                      clear HO330
                      clear HO333
                      clear HO336
                      clear HO339
                      clear HO342
                      clear HO346
                      clear BK299
                      clear HB
                      have HO_0 := n0_
                      have HO_1 := n1_
                      have HO_300000 := n2_
                      have HO_300001 := n3_
                      have HO326 := n4_
                      have HO330 := n5_
                      have HO333 := n6_
                      have HO336 := n7_
                      have HO339 := n8_
                      have HO342 := n9_
                      have HO346 := n10_
                      have BK299 := n11_
                      have HB := n12_
                      have BK347 := n13_
                      have GW347 := n14_
                      have GE347 := n15_
                      have NB299_347 := n16_
                      have NB347_299 := n17_
                      clear n0_ n1_ n2_ n3_ n4_ n5_ n6_ n7_ n8_ n9_ n10_ n11_ n12_ n13_ n14_ n15_ n16_ n17_
                      clear hb hbox hg
                      refine hK.out _ _ ⟨(blk_cell BK299.out 0).trans rfl, (blk_cell BK299.out 1).trans rfl⟩ (fun hHeld => ?_)
                      clear hK K
                      refine norm_ (a' := ?_) ?_ ?_
                      rotate_left
                      · show Act.put _ (some 15) _ = _
                        simp only [Act.put, List.setIfInBounds_toArray, List.set_cons_zero, List.set_cons_succ, i64_w, i32_w]
                        rfl
                      exact norm_ (by simp only [putAll, Act.put, List.setIfInBounds_toArray, List.set_cons_zero, List.set_cons_succ]) (hCont (.slice Ao61 t328.length co61, .slice Ao62 t331.length co62, v335, v338, v341, v345, gb347) _ ⟨hHeld, (by exact pN (Kd.N_mono HO326.out (fun _ hk => ⟨hk.1.1.1.1.2, ⟨hk.1.1.1.2, ⟨hk.1.1.2, ⟨hk.1.2, ⟨hk.1.1.1.1.1.1, ⟨hk.1.1.1.1.1.2.1, ⟨hk.1.1.1.1.1.2.2, hk.2⟩⟩⟩⟩⟩⟩⟩))), (by exact pR (Kd.R_mono HO330.out (fun _ hk => ⟨hk.1.1.1, ⟨hk.2, ⟨hk.1.1.2, hk.1.2⟩⟩⟩))), (by exact pR (Kd.R_mono HO333.out (fun _ hk => ⟨hk.1.1.1, ⟨hk.2, ⟨hk.1.1.2, hk.1.2⟩⟩⟩))), (by exact pV (Kd.V_mono HO336.out (fun _ hk => ⟨hk.1.2.2.2.2.2.2.1, ⟨hk.1.2.2.2.2.2.2.2.1, ⟨hk.1.2.2.2.2.2.2.2.2.1, ⟨hk.1.1, ⟨hk.1.2.1, ⟨hk.1.2.2.1, ⟨hk.1.2.2.2.1, ⟨hk.1.2.2.2.2.1, ⟨hk.1.2.2.2.2.2.1, ⟨hk.1.2.2.2.2.2.2.2.2.2, hk.2⟩⟩⟩⟩⟩⟩⟩⟩⟩⟩))), (by exact pR (Kd.R_mono HO339.out (fun _ hk => ⟨hk.1.2, ⟨hk.2, ⟨hk.1.1.1.2, hk.1.1.2⟩⟩⟩))), (by exact pV (Kd.V_mono HO342.out (fun _ hk => ⟨hk.1.2.2.2.2.2.2.1, ⟨hk.1.2.2.2.2.2.2.2.1, ⟨hk.1.2.2.2.2.2.2.2.2.1, ⟨hk.1.1, ⟨hk.1.2.1, ⟨hk.1.2.2.1, ⟨hk.1.2.2.2.1, ⟨hk.1.2.2.2.2.1, ⟨hk.1.2.2.2.2.2.1, ⟨hk.1.2.2.2.2.2.2.2.2.2, hk.2⟩⟩⟩⟩⟩⟩⟩⟩⟩⟩))), (by exact pN (Kd.N_mono HO346.out (fun _ hk => ⟨hk.1.2.2.2.2.2.1, ⟨hk.1.2.2.2.2.2.2.1, ⟨hk.1.2.2.2.2.2.2.2.1, ⟨hk.1.1, ⟨hk.1.2.1, ⟨hk.1.2.2.1, ⟨hk.1.2.2.2.1, ⟨hk.1.2.2.2.2.1, ⟨hk.1.2.2.2.2.2.2.2.2, hk.2⟩⟩⟩⟩⟩⟩⟩⟩⟩))), (by exact pN (Kd.N_mono HO_0.out (fun _ hk => ⟨hk.1.1.1.1.1.2, ⟨hk.1.1.1.1.2, ⟨hk.1.1.1.2, ⟨hk.1.1.2, ⟨hk.1.2, ⟨hk.1.1.1.1.1.1.1, ⟨hk.1.1.1.1.1.1.2.1, ⟨hk.1.1.1.1.1.1.2.2.1, ⟨hk.1.1.1.1.1.1.2.2.2, hk.2⟩⟩⟩⟩⟩⟩⟩⟩⟩))), (by exact pN (Kd.N_mono HO_1.out (fun _ hk => ⟨hk.1.1.1.1.1.2, ⟨hk.1.1.1.1.2, ⟨hk.1.1.1.2, ⟨hk.1.1.2, ⟨hk.1.2, ⟨hk.1.1.1.1.1.1.1, ⟨hk.1.1.1.1.1.1.2.1, ⟨hk.1.1.1.1.1.1.2.2.1, ⟨hk.1.1.1.1.1.1.2.2.2, hk.2⟩⟩⟩⟩⟩⟩⟩⟩⟩))), (by exact pR (Kd.R_mono HO_300000.out (fun _ hk => ⟨hk.1.1.2, ⟨hk.1.2, ⟨hk.2, hk.1.1.1⟩⟩⟩))), (by exact pR (Kd.R_mono HO_300001.out (fun _ hk => ⟨hk.1.1.2, ⟨hk.1.2, ⟨hk.2, hk.1.1.1⟩⟩⟩))), (by exact pK BK299.out), (by exact pK BK347.out), GW347.out, GE347.out, NB299_347.out, NB347_299.out, (by exact pB HB.out)⟩)
                    · skip
                      refine box_step ?hg (N := 15) ?hd (cs := #[.slice none 0 0, .slice none 0 0]) (t := 24) ?hr ?_; (case hd => rfl); (case hg => rfl); (case hr => first | (go_simp; done) | (go_simp; rfl))
                      intro gb347 hg w61 hbox hb
                      have n0_ := Aside0.mk (Kd.N_below (Kd.N_elderB (by exact pN HO_0.out) gb347 (Nat.le_of_eq hg.symm)) hb)
                      have n1_ := Aside0.mk (Kd.N_below (Kd.N_elderB (by exact pN HO_1.out) gb347 (Nat.le_of_eq hg.symm)) hb)
                      have n2_ := Aside0.mk (Kd.R_below (by exact pR HO_300000.out) hb)
                      have n3_ := Aside0.mk (Kd.R_below (by exact pR HO_300001.out) hb)
                      have n4_ := Aside0.mk (Kd.N_below (Kd.N_elderB (by exact pN HO326.out) gb347 (Nat.le_of_eq hg.symm)) hb)
                      have n5_ := Aside0.mk (Kd.R_below (by exact pR HO330.out) hb)
                      have n6_ := Aside0.mk (Kd.R_below (by exact pR HO333.out) hb)
                      have n7_ := Aside0.mk (blk_below (g := gb299) (o := .cells #[.slice Ao57 x300000_2.length co57, .slice Ao58 x300001_2.length co58] 24 (0, 0)) (by exact pK BK299.out) hb)
                      have n8_ := Aside0.mk (below_step (by exact pB HB.out) hb)
                      have n9_ := Aside0.mk (hbox)
                      have n10_ := Aside0.mk ((by rw [hg]; exact (below_size (by exact pB HB.out)) : w.heap.size ≤ gb347))
                      have n11_ := Aside0.mk ((by rw [hg]; exact (below_size (by exact pB HB.out)) : w.heap.size ≤ gb347))
                      have n12_ := Aside0.mk ((by rw [hg]; exact Nat.ne_of_lt (blk_lt (g := gb299) (o := .cells #[.slice Ao57 x300000_2.length co57, .slice Ao58 x300001_2.length co58] 24 (0, 0)) (by exact pK BK299.out)) : gb299 ≠ gb347))
                      have n13_ := Aside0.mk ((by rw [hg]; exact Nat.ne_of_gt (blk_lt (g := gb299) (o := .cells #[.slice Ao57 x300000_2.length co57, .slice Ao58 x300001_2.length co58] 24 (0, 0)) (by exact pK BK299.out)) : gb347 ≠ gb299))
                      clear HO_0
                      clear HO_1
                      clear HO_300000
                      clear HO_300001
                      clear HO326
                      clear HO330
                      clear HO333
                      clear BK299
                      clear HB
                      have HO_0 := n0_
                      have HO_1 := n1_
                      have HO_300000 := n2_
                      have HO_300001 := n3_
                      have HO326 := n4_
                      have HO330 := n5_
                      have HO333 := n6_
                      have BK299 := n7_
                      have HB := n8_
                      have BK347 := n9_
                      have GW347 := n10_
                      have GE347 := n11_
                      have NB299_347 := n12_
                      have NB347_299 := n13_
                      clear n0_ n1_ n2_ n3_ n4_ n5_ n6_ n7_ n8_ n9_ n10_ n11_ n12_ n13_
                      clear hb hbox hg
                      obtain ⟨Ao62, co62, eo62⟩ := Kd.R_slice HO330.out
                      (first | subst eo62 | (injection eo62 with f1_ f2_ f3_; have f4_ := f1_.symm; have f5_ := f3_.symm; clear f1_ f2_ f3_; subst f4_; subst f5_))
                      obtain ⟨Ao63, co63, eo63⟩ := Kd.R_slice HO333.out
                      (first | subst eo63 | (injection eo63 with f1_ f2_ f3_; have f4_ := f1_.symm; have f5_ := f3_.symm; clear f1_ f2_ f3_; subst f4_; subst f5_))
                      refine hK.out _ _ ⟨(blk_cell BK299.out 0).trans rfl, (blk_cell BK299.out 1).trans rfl⟩ (fun hHeld => ?_)
                      clear hK K
                      refine norm_ (a' := ?_) ?_ ?_
                      rotate_left
                      · show Act.put _ (some 15) _ = _
                        simp only [Act.put, List.setIfInBounds_toArray, List.set_cons_zero, List.set_cons_succ, i64_w, i32_w]
                        rfl
                      refine one_ (i := 4) (N := some 76) #[true, true, true, true, true, false, false, false, false, false, true, false, false, false, false] rfl rfl (one_of HT_.out (by kernel_rfl)) (by decide) (fun K hK => ?_)
                      refine goes_ Try.func38 (by kernel_rfl) rfl #[.agg #[.slice Ao62 t328.length co62, .slice Ao63 t331.length co63]] (by rfl) rfl rfl (by (try simp only [List.map_toArray, List.map_cons, List.map_nil]); first | done | rfl | (simp only [List.length_drop, List.length_take]; rfl)) ?_
                      with_reducible refine (journal_Open.calls k2 _ _ t328 _ _ t331 t334 t337 t340 t343 t344 _ ?side1 ?side2 ?side3 ?side4 A50.out).mono ?_
                      (case side1 => exact pC (Kd.R_reads' HO330.out).2.2)
                      (case side2 => exact (Kd.R_reads' HO330.out).2.1)
                      (case side3 => exact pC (Kd.R_reads' HO333.out).2.2)
                      (case side4 => exact (Kd.R_reads' HO333.out).2.1)
                      rintro e w64 ⟨v335, v338, v341, v345, rfl, ho0, ho1, ho2, ho3, hb⟩
                      refine ⟨_, rfl, ?_⟩
                      have n0_ := Aside0.mk (Kd.N_mono (Kd.N_told (Kd.N_told (Kd.N_old (by exact pN HO_0.out) hb) (Kd.R_base ho1)) (Kd.N_base ho3)) (fun _ h_ => h_.1))
                      have n1_ := Aside0.mk (Kd.N_mono (Kd.N_told (Kd.N_told (Kd.N_old (by exact pN HO_1.out) hb) (Kd.R_base ho1)) (Kd.N_base ho3)) (fun _ h_ => h_.1))
                      have n2_ := Aside0.mk (Kd.R_elder' (by exact pR HO_300000.out) (Kd.R_base ho1) hb)
                      have n3_ := Aside0.mk (Kd.R_elder' (by exact pR HO_300001.out) (Kd.R_base ho1) hb)
                      have n4_ := Aside0.mk (Kd.N_mono (Kd.N_told (Kd.N_told (Kd.N_old (by exact pN HO326.out) hb) (Kd.R_base ho1)) (Kd.N_base ho3)) (fun _ h_ => h_.1))
                      have n5_ := Aside0.mk (Kd.R_elder' (by exact pR HO330.out) (Kd.R_base ho1) hb)
                      have n6_ := Aside0.mk (Kd.R_elder' (by exact pR HO333.out) (Kd.R_base ho1) hb)
                      have n7_ := Aside0.mk (Kd.V_lower (Kd.V_mono (ok' := fun k_ => some k_ ≠ (v338 : Value).ownBlock ∧ some k_ ≠ (v345 : Value).ownBlock ∧ some k_ ≠ (.slice Ao27 t293.length co27 : Value).ownBlock ∧ some k_ ≠ (.slice Ao52 t296.length co52 : Value).ownBlock ∧ some k_ ≠ (.slice Ao57 x300000_2.length co57 : Value).ownBlock ∧ some k_ ≠ (.slice Ao58 x300001_2.length co58 : Value).ownBlock ∧ some k_ ≠ (v325 : Value).ownBlock ∧ some k_ ≠ (.slice Ao62 t328.length co62 : Value).ownBlock ∧ some k_ ≠ (.slice Ao63 t331.length co63 : Value).ownBlock ∧ k_ ≠ gb299 ∧ k_ ≠ gb347) ho0 (fun k_ hk_ => ⟨hk_.2.1, hk_.2.2, (Kd.fresh' (Kd.N_lt (by exact pN HO_0.out)) k_ hk_.1), (Kd.fresh' (Kd.N_lt (by exact pN HO_1.out)) k_ hk_.1), (Kd.fresh' (Kd.R_lt (by exact pR HO_300000.out)) k_ hk_.1), (Kd.fresh' (Kd.R_lt (by exact pR HO_300001.out)) k_ hk_.1), (Kd.fresh' (Kd.N_lt (by exact pN HO326.out)) k_ hk_.1), (Kd.fresh' (Kd.R_lt (by exact pR HO330.out)) k_ hk_.1), (Kd.fresh' (Kd.R_lt (by exact pR HO333.out)) k_ hk_.1), (Kd.freshB (g := gb299) (o := .cells #[.slice Ao57 x300000_2.length co57, .slice Ao58 x300001_2.length co58] 24 (0, 0)) (by exact pK BK299.out) k_ hk_.1), (Kd.freshB (g := gb347) (o := .cells #[.slice none 0 0, .slice none 0 0] 24 (0, 0)) (by exact pK BK347.out) k_ hk_.1)⟩)) (below_size (by exact pB HB.out)))
                      have n8_ := Aside0.mk (Kd.R_lower (Kd.R_new' (Kd.R_new' (Kd.R_new' (Kd.R_new' (Kd.R_mono (ok' := fun k_ => True) ho1 (fun _ hk_ => trivial)) (Kd.R_lt (by exact pR HO_300000.out))) (Kd.R_lt (by exact pR HO_300001.out))) (Kd.R_lt (by exact pR HO330.out))) (Kd.R_lt (by exact pR HO333.out))) (below_size (by exact pB HB.out)))
                      have n9_ := Aside0.mk (Kd.V_lower (Kd.V_mono (ok' := fun k_ => some k_ ≠ (v338 : Value).ownBlock ∧ some k_ ≠ (v345 : Value).ownBlock ∧ some k_ ≠ (.slice Ao27 t293.length co27 : Value).ownBlock ∧ some k_ ≠ (.slice Ao52 t296.length co52 : Value).ownBlock ∧ some k_ ≠ (.slice Ao57 x300000_2.length co57 : Value).ownBlock ∧ some k_ ≠ (.slice Ao58 x300001_2.length co58 : Value).ownBlock ∧ some k_ ≠ (v325 : Value).ownBlock ∧ some k_ ≠ (.slice Ao62 t328.length co62 : Value).ownBlock ∧ some k_ ≠ (.slice Ao63 t331.length co63 : Value).ownBlock ∧ k_ ≠ gb299 ∧ k_ ≠ gb347) ho2 (fun k_ hk_ => ⟨hk_.2.1, hk_.2.2, (Kd.fresh' (Kd.N_lt (by exact pN HO_0.out)) k_ hk_.1), (Kd.fresh' (Kd.N_lt (by exact pN HO_1.out)) k_ hk_.1), (Kd.fresh' (Kd.R_lt (by exact pR HO_300000.out)) k_ hk_.1), (Kd.fresh' (Kd.R_lt (by exact pR HO_300001.out)) k_ hk_.1), (Kd.fresh' (Kd.N_lt (by exact pN HO326.out)) k_ hk_.1), (Kd.fresh' (Kd.R_lt (by exact pR HO330.out)) k_ hk_.1), (Kd.fresh' (Kd.R_lt (by exact pR HO333.out)) k_ hk_.1), (Kd.freshB (g := gb299) (o := .cells #[.slice Ao57 x300000_2.length co57, .slice Ao58 x300001_2.length co58] 24 (0, 0)) (by exact pK BK299.out) k_ hk_.1), (Kd.freshB (g := gb347) (o := .cells #[.slice none 0 0, .slice none 0 0] 24 (0, 0)) (by exact pK BK347.out) k_ hk_.1)⟩)) (below_size (by exact pB HB.out)))
                      have n10_ := Aside0.mk (Kd.N_lower (Kd.N_mono (ok' := fun k_ => some k_ ≠ (v338 : Value).ownBlock ∧ some k_ ≠ (.slice Ao27 t293.length co27 : Value).ownBlock ∧ some k_ ≠ (.slice Ao52 t296.length co52 : Value).ownBlock ∧ some k_ ≠ (.slice Ao57 x300000_2.length co57 : Value).ownBlock ∧ some k_ ≠ (.slice Ao58 x300001_2.length co58 : Value).ownBlock ∧ some k_ ≠ (v325 : Value).ownBlock ∧ some k_ ≠ (.slice Ao62 t328.length co62 : Value).ownBlock ∧ some k_ ≠ (.slice Ao63 t331.length co63 : Value).ownBlock ∧ k_ ≠ gb299 ∧ k_ ≠ gb347) ho3 (fun k_ hk_ => ⟨hk_.2, (Kd.fresh' (Kd.N_lt (by exact pN HO_0.out)) k_ hk_.1), (Kd.fresh' (Kd.N_lt (by exact pN HO_1.out)) k_ hk_.1), (Kd.fresh' (Kd.R_lt (by exact pR HO_300000.out)) k_ hk_.1), (Kd.fresh' (Kd.R_lt (by exact pR HO_300001.out)) k_ hk_.1), (Kd.fresh' (Kd.N_lt (by exact pN HO326.out)) k_ hk_.1), (Kd.fresh' (Kd.R_lt (by exact pR HO330.out)) k_ hk_.1), (Kd.fresh' (Kd.R_lt (by exact pR HO333.out)) k_ hk_.1), (Kd.freshB (g := gb299) (o := .cells #[.slice Ao57 x300000_2.length co57, .slice Ao58 x300001_2.length co58] 24 (0, 0)) (by exact pK BK299.out) k_ hk_.1), (Kd.freshB (g := gb347) (o := .cells #[.slice none 0 0, .slice none 0 0] 24 (0, 0)) (by exact pK BK347.out) k_ hk_.1)⟩)) (below_size (by exact pB HB.out)))
                      have n11_ := Aside0.mk (blk_below (g := gb299) (o := .cells #[.slice Ao57 x300000_2.length co57, .slice Ao58 x300001_2.length co58] 24 (0, 0)) (by exact pK BK299.out) hb)
                      have n12_ := Aside0.mk (blk_below (g := gb347) (o := .cells #[.slice none 0 0, .slice none 0 0] 24 (0, 0)) (by exact pK BK347.out) hb)
                      have n13_ := Aside0.mk (below_step (by exact pB HB.out) hb)
                      clear HO_0
                      clear HO_1
                      clear HO_300000
                      clear HO_300001
                      clear HO326
                      clear HO330
                      clear HO333
                      clear BK299
                      clear BK347
                      clear HB
                      have HO_0 := n0_
                      have HO_1 := n1_
                      have HO_300000 := n2_
                      have HO_300001 := n3_
                      have HO326 := n4_
                      have HO330 := n5_
                      have HO333 := n6_
                      have HO336 := n7_
                      have HO339 := n8_
                      have HO342 := n9_
                      have HO346 := n10_
                      have BK299 := n11_
                      have BK347 := n12_
                      have HB := n13_
                      clear n0_ n1_ n2_ n3_ n4_ n5_ n6_ n7_ n8_ n9_ n10_ n11_ n12_ n13_
                      (try clear hb)
                      (try clear hb2)
                      (try clear hk)
                      (try clear hi)
                      (try clear ho0)
                      (try clear ho1)
                      (try clear ho2)
                      (try clear ho3)
                      refine hK.out _ _ ⟨(blk_cell BK299.out 0).trans rfl, (blk_cell BK299.out 1).trans rfl⟩ (fun hHeld => ?_)
                      clear hK K
                      refine norm_ (a' := ?_) ?_ ?_
                      rotate_left
                      · show Act.put _ (some 76) _ = _
                        simp only [Act.put, List.setIfInBounds_toArray, List.set_cons_zero, List.set_cons_succ, i64_w, i32_w]
                        rfl
                      refine pure_ (i := 5) (N := some 71) (v := ?_) (a' := ?_) #[true, true, true, true, true, true, false, false, false, false, true, false, false, false, false] rfl rfl (any_of HT_.out (by kernel_rfl)) (fun _ _ _ h => h) (Or.inl ⟨by rfl, ?_⟩) ?_ ?_
                      rotate_left
                      · intro w'
                        go_simp
                        with_reducible rfl
                      rotate_left
                      · simp only [Act.put, List.setIfInBounds_toArray, List.set_cons_zero, List.set_cons_succ, i64_w, i32_w]
                        rfl
                      refine pure_ (i := 6) (N := some 77) (v := ?_) (a' := ?_) #[true, true, true, true, true, true, true, false, false, false, true, false, false, false, false] rfl rfl (any_of HT_.out (by kernel_rfl)) (fun _ _ _ h => h) (Or.inl ⟨by rfl, ?_⟩) ?_ ?_
                      rotate_left
                      · intro w'
                        go_simp
                        with_reducible rfl
                      rotate_left
                      · simp only [Act.put, List.setIfInBounds_toArray, List.set_cons_zero, List.set_cons_succ, i64_w, i32_w]
                        rfl
                      refine pure_ (i := 7) (N := some 78) (v := ?_) (a' := ?_) #[true, true, true, true, true, true, true, true, false, false, true, false, false, false, false] rfl rfl (any_of HT_.out (by kernel_rfl)) (fun _ _ _ h => h) (Or.inl ⟨by rfl, ?_⟩) ?_ ?_
                      rotate_left
                      · intro w'
                        go_simp
                        with_reducible rfl
                      rotate_left
                      · simp only [Act.put, List.setIfInBounds_toArray, List.set_cons_zero, List.set_cons_succ, i64_w, i32_w]
                        rfl
                      refine pure_ (i := 8) (N := some 79) (v := ?_) (a' := ?_) #[true, true, true, true, true, true, true, true, true, false, true, false, false, false, false] rfl rfl (any_of HT_.out (by kernel_rfl)) (fun _ _ _ h => h) (Or.inl ⟨by rfl, ?_⟩) ?_ ?_
                      rotate_left
                      · intro w'
                        go_simp
                        with_reducible rfl
                      rotate_left
                      · simp only [Act.put, List.setIfInBounds_toArray, List.set_cons_zero, List.set_cons_succ, i64_w, i32_w]
                        rfl
                      refine pure_ (i := 9) (N := some 80) (v := ?_) (a' := ?_) #[true, true, true, true, true, true, true, true, true, true, true, false, false, false, false] rfl rfl (any_of HT_.out (by kernel_rfl)) (fun _ _ _ h => h) (Or.inl ⟨by rfl, ?_⟩) ?_ ?_
                      rotate_left
                      · intro w'
                        go_simp
                        with_reducible rfl
                      rotate_left
                      · simp only [Act.put, List.setIfInBounds_toArray, List.set_cons_zero, List.set_cons_succ, i64_w, i32_w]
                        rfl
                      exact norm_ (by simp only [putAll, Act.put, List.setIfInBounds_toArray, List.set_cons_zero, List.set_cons_succ]) (hCont (.slice Ao62 t328.length co62, .slice Ao63 t331.length co63, v335, v338, v341, v345, gb347) _ ⟨hHeld, (by exact pN (Kd.N_mono HO326.out (fun _ hk => ⟨hk.1.1.1.1.2, ⟨hk.1.1.1.2, ⟨hk.1.2, ⟨hk.2, ⟨hk.1.1.1.1.1.1, ⟨hk.1.1.1.1.1.2.1, ⟨hk.1.1.1.1.1.2.2, hk.1.1.2⟩⟩⟩⟩⟩⟩⟩))), (by exact pR (Kd.R_mono HO330.out (fun _ hk => ⟨hk.1.1.1, ⟨hk.2, ⟨hk.1.1.2, hk.1.2⟩⟩⟩))), (by exact pR (Kd.R_mono HO333.out (fun _ hk => ⟨hk.1.1.1, ⟨hk.2, ⟨hk.1.1.2, hk.1.2⟩⟩⟩))), (by exact pV (Kd.V_mono HO336.out (fun _ hk => ⟨hk.2.2.2.2.2.2.1, ⟨hk.2.2.2.2.2.2.2.1, ⟨hk.2.2.2.2.2.2.2.2.1, ⟨hk.1, ⟨hk.2.1, ⟨hk.2.2.1, ⟨hk.2.2.2.1, ⟨hk.2.2.2.2.1, ⟨hk.2.2.2.2.2.1, ⟨hk.2.2.2.2.2.2.2.2.2.1, hk.2.2.2.2.2.2.2.2.2.2⟩⟩⟩⟩⟩⟩⟩⟩⟩⟩))), (by exact pR (Kd.R_mono HO339.out (fun _ hk => ⟨hk.1.2, ⟨hk.2, ⟨hk.1.1.1.2, hk.1.1.2⟩⟩⟩))), (by exact pV (Kd.V_mono HO342.out (fun _ hk => ⟨hk.2.2.2.2.2.2.1, ⟨hk.2.2.2.2.2.2.2.1, ⟨hk.2.2.2.2.2.2.2.2.1, ⟨hk.1, ⟨hk.2.1, ⟨hk.2.2.1, ⟨hk.2.2.2.1, ⟨hk.2.2.2.2.1, ⟨hk.2.2.2.2.2.1, ⟨hk.2.2.2.2.2.2.2.2.2.1, hk.2.2.2.2.2.2.2.2.2.2⟩⟩⟩⟩⟩⟩⟩⟩⟩⟩))), (by exact pN (Kd.N_mono HO346.out (fun _ hk => ⟨hk.2.2.2.2.2.1, ⟨hk.2.2.2.2.2.2.1, ⟨hk.2.2.2.2.2.2.2.1, ⟨hk.1, ⟨hk.2.1, ⟨hk.2.2.1, ⟨hk.2.2.2.1, ⟨hk.2.2.2.2.1, ⟨hk.2.2.2.2.2.2.2.2.1, hk.2.2.2.2.2.2.2.2.2⟩⟩⟩⟩⟩⟩⟩⟩⟩))), (by exact pN (Kd.N_mono HO_0.out (fun _ hk => ⟨hk.1.1.1.1.1.2, ⟨hk.1.1.1.1.2, ⟨hk.1.1.1.2, ⟨hk.1.2, ⟨hk.2, ⟨hk.1.1.1.1.1.1.1, ⟨hk.1.1.1.1.1.1.2.1, ⟨hk.1.1.1.1.1.1.2.2.1, ⟨hk.1.1.1.1.1.1.2.2.2, hk.1.1.2⟩⟩⟩⟩⟩⟩⟩⟩⟩))), (by exact pN (Kd.N_mono HO_1.out (fun _ hk => ⟨hk.1.1.1.1.1.2, ⟨hk.1.1.1.1.2, ⟨hk.1.1.1.2, ⟨hk.1.2, ⟨hk.2, ⟨hk.1.1.1.1.1.1.1, ⟨hk.1.1.1.1.1.1.2.1, ⟨hk.1.1.1.1.1.1.2.2.1, ⟨hk.1.1.1.1.1.1.2.2.2, hk.1.1.2⟩⟩⟩⟩⟩⟩⟩⟩⟩))), (by exact pR (Kd.R_mono HO_300000.out (fun _ hk => ⟨hk.1.1.2, ⟨hk.1.2, ⟨hk.2, hk.1.1.1⟩⟩⟩))), (by exact pR (Kd.R_mono HO_300001.out (fun _ hk => ⟨hk.1.1.2, ⟨hk.1.2, ⟨hk.2, hk.1.1.1⟩⟩⟩))), (by exact pK BK299.out), (by exact pK BK347.out), GW347.out, GE347.out, NB299_347.out, NB347_299.out, (by exact pB HB.out)⟩)
                  · skip
                    refine box_step ?hg (N := 15) ?hd (cs := #[.slice none 0 0, .slice none 0 0]) (t := 24) ?hr ?_; (case hd => rfl); (case hg => rfl); (case hr => first | (go_simp; done) | (go_simp; rfl))
                    intro gb347 hg w60 hbox hb
                    have n0_ := Aside0.mk (Kd.N_below (Kd.N_elderB (by exact pN HO_0.out) gb347 (Nat.le_of_eq hg.symm)) hb)
                    have n1_ := Aside0.mk (Kd.N_below (Kd.N_elderB (by exact pN HO_1.out) gb347 (Nat.le_of_eq hg.symm)) hb)
                    have n2_ := Aside0.mk (Kd.R_below (by exact pR HO_300000.out) hb)
                    have n3_ := Aside0.mk (Kd.R_below (by exact pR HO_300001.out) hb)
                    have n4_ := Aside0.mk (Kd.N_below (Kd.N_elderB (by exact pN HO326.out) gb347 (Nat.le_of_eq hg.symm)) hb)
                    have n5_ := Aside0.mk (blk_below (g := gb299) (o := .cells #[.slice Ao57 x300000_2.length co57, .slice Ao58 x300001_2.length co58] 24 (0, 0)) (by exact pK BK299.out) hb)
                    have n6_ := Aside0.mk (below_step (by exact pB HB.out) hb)
                    have n7_ := Aside0.mk (hbox)
                    have n8_ := Aside0.mk ((by rw [hg]; exact (below_size (by exact pB HB.out)) : w.heap.size ≤ gb347))
                    have n9_ := Aside0.mk ((by rw [hg]; exact (below_size (by exact pB HB.out)) : w.heap.size ≤ gb347))
                    have n10_ := Aside0.mk ((by rw [hg]; exact Nat.ne_of_lt (blk_lt (g := gb299) (o := .cells #[.slice Ao57 x300000_2.length co57, .slice Ao58 x300001_2.length co58] 24 (0, 0)) (by exact pK BK299.out)) : gb299 ≠ gb347))
                    have n11_ := Aside0.mk ((by rw [hg]; exact Nat.ne_of_gt (blk_lt (g := gb299) (o := .cells #[.slice Ao57 x300000_2.length co57, .slice Ao58 x300001_2.length co58] 24 (0, 0)) (by exact pK BK299.out)) : gb347 ≠ gb299))
                    clear HO_0
                    clear HO_1
                    clear HO_300000
                    clear HO_300001
                    clear HO326
                    clear BK299
                    clear HB
                    have HO_0 := n0_
                    have HO_1 := n1_
                    have HO_300000 := n2_
                    have HO_300001 := n3_
                    have HO326 := n4_
                    have BK299 := n5_
                    have HB := n6_
                    have BK347 := n7_
                    have GW347 := n8_
                    have GE347 := n9_
                    have NB299_347 := n10_
                    have NB347_299 := n11_
                    clear n0_ n1_ n2_ n3_ n4_ n5_ n6_ n7_ n8_ n9_ n10_ n11_
                    clear hb hbox hg
                    refine hK.out _ _ ⟨(blk_cell BK299.out 0).trans rfl, (blk_cell BK299.out 1).trans rfl⟩ (fun hHeld => ?_)
                    clear hK K
                    refine norm_ (a' := ?_) ?_ ?_
                    rotate_left
                    · show Act.put _ (some 15) _ = _
                      simp only [Act.put, List.setIfInBounds_toArray, List.set_cons_zero, List.set_cons_succ, i64_w, i32_w]
                      rfl
                    refine one_ (i := 3) (N := some 75) #[true, true, true, true, false, false, false, false, false, false, true, false, false, false, false] rfl rfl (one_of HT_.out (by kernel_rfl)) (by decide) (fun K hK => ?_)
                    refine goes_ Try.func21 (by kernel_rfl) rfl #[.agg #[.slice Ao57 x300000_2.length co57, .slice Ao58 x300001_2.length co58], .int .i64 t327] (by rfl) rfl rfl (by (try simp only [List.map_toArray, List.map_cons, List.map_nil]); first | done | rfl | (simp only [List.length_drop, List.length_take]; rfl)) ?_
                    with_reducible refine (disk_Crash.calls _ _ x300000_2 _ _ x300001_2 t327 t328 t331 _ ?side1 ?side2 ?side3 ?side4 A49.out).mono ?_
                    (case side1 => exact pC (Kd.R_reads' HO_300000.out).2.2)
                    (case side2 => exact (Kd.R_reads' HO_300000.out).2.1)
                    (case side3 => exact pC (Kd.R_reads' HO_300001.out).2.2)
                    (case side4 => exact (Kd.R_reads' HO_300001.out).2.1)
                    rintro e w61 ⟨v329, v332, rfl, ho0, ho1, hb⟩
                    refine ⟨_, rfl, ?_⟩
                    have n0_ := Aside0.mk (Kd.N_mono (Kd.N_told (Kd.N_told (Kd.N_old (by exact pN HO_0.out) hb) (Kd.R_base ho0)) (Kd.R_base ho1)) (fun _ h_ => h_.1))
                    have n1_ := Aside0.mk (Kd.N_mono (Kd.N_told (Kd.N_told (Kd.N_old (by exact pN HO_1.out) hb) (Kd.R_base ho0)) (Kd.R_base ho1)) (fun _ h_ => h_.1))
                    have n2_ := Aside0.mk (Kd.R_mono (Kd.R_told (Kd.R_told (Kd.R_old (by exact pR HO_300000.out) hb) (Kd.R_base ho0)) (Kd.R_base ho1)) (fun _ h_ => h_.1))
                    have n3_ := Aside0.mk (Kd.R_mono (Kd.R_told (Kd.R_told (Kd.R_old (by exact pR HO_300001.out) hb) (Kd.R_base ho0)) (Kd.R_base ho1)) (fun _ h_ => h_.1))
                    have n4_ := Aside0.mk (Kd.N_mono (Kd.N_told (Kd.N_told (Kd.N_old (by exact pN HO326.out) hb) (Kd.R_base ho0)) (Kd.R_base ho1)) (fun _ h_ => h_.1))
                    have n5_ := Aside0.mk (Kd.R_lower (Kd.R_new' (Kd.R_new' ho0 (Kd.R_lt (by exact pR HO_300000.out))) (Kd.R_lt (by exact pR HO_300001.out))) (below_size (by exact pB HB.out)))
                    have n6_ := Aside0.mk (Kd.R_lower (Kd.R_new' (Kd.R_new' ho1 (Kd.R_lt (by exact pR HO_300000.out))) (Kd.R_lt (by exact pR HO_300001.out))) (below_size (by exact pB HB.out)))
                    have n7_ := Aside0.mk (blk_below (g := gb299) (o := .cells #[.slice Ao57 x300000_2.length co57, .slice Ao58 x300001_2.length co58] 24 (0, 0)) (by exact pK BK299.out) hb)
                    have n8_ := Aside0.mk (blk_below (g := gb347) (o := .cells #[.slice none 0 0, .slice none 0 0] 24 (0, 0)) (by exact pK BK347.out) hb)
                    have n9_ := Aside0.mk (below_step (by exact pB HB.out) hb)
                    clear HO_0
                    clear HO_1
                    clear HO_300000
                    clear HO_300001
                    clear HO326
                    clear BK299
                    clear BK347
                    clear HB
                    have HO_0 := n0_
                    have HO_1 := n1_
                    have HO_300000 := n2_
                    have HO_300001 := n3_
                    have HO326 := n4_
                    have HO330 := n5_
                    have HO333 := n6_
                    have BK299 := n7_
                    have BK347 := n8_
                    have HB := n9_
                    clear n0_ n1_ n2_ n3_ n4_ n5_ n6_ n7_ n8_ n9_
                    (try clear hb)
                    (try clear hb2)
                    (try clear hk)
                    (try clear hi)
                    (try clear ho0)
                    (try clear ho1)
                    obtain ⟨Ao62, co62, eo62⟩ := Kd.R_slice HO330.out
                    (first | subst eo62 | (injection eo62 with f1_ f2_ f3_; have f4_ := f1_.symm; have f5_ := f3_.symm; clear f1_ f2_ f3_; subst f4_; subst f5_))
                    obtain ⟨Ao63, co63, eo63⟩ := Kd.R_slice HO333.out
                    (first | subst eo63 | (injection eo63 with f1_ f2_ f3_; have f4_ := f1_.symm; have f5_ := f3_.symm; clear f1_ f2_ f3_; subst f4_; subst f5_))
                    refine hK.out _ _ ⟨(blk_cell BK299.out 0).trans rfl, (blk_cell BK299.out 1).trans rfl⟩ (fun hHeld => ?_)
                    clear hK K
                    refine norm_ (a' := ?_) ?_ ?_
                    rotate_left
                    · show Act.put _ (some 75) _ = _
                      simp only [Act.put, List.setIfInBounds_toArray, List.set_cons_zero, List.set_cons_succ, i64_w, i32_w]
                      rfl
                    refine one_ (i := 4) (N := some 76) #[true, true, true, true, true, false, false, false, false, false, true, false, false, false, false] rfl rfl (one_of HT_.out (by kernel_rfl)) (by decide) (fun K hK => ?_)
                    refine goes_ Try.func38 (by kernel_rfl) rfl #[.agg #[.slice Ao62 t328.length co62, .slice Ao63 t331.length co63]] (by rfl) rfl rfl (by (try simp only [List.map_toArray, List.map_cons, List.map_nil]); first | done | rfl | (simp only [List.length_drop, List.length_take]; rfl)) ?_
                    with_reducible refine (journal_Open.calls k2 _ _ t328 _ _ t331 t334 t337 t340 t343 t344 _ ?side1 ?side2 ?side3 ?side4 A50.out).mono ?_
                    (case side1 => exact pC (Kd.R_reads' HO330.out).2.2)
                    (case side2 => exact (Kd.R_reads' HO330.out).2.1)
                    (case side3 => exact pC (Kd.R_reads' HO333.out).2.2)
                    (case side4 => exact (Kd.R_reads' HO333.out).2.1)
                    rintro e w64 ⟨v335, v338, v341, v345, rfl, ho0, ho1, ho2, ho3, hb⟩
                    refine ⟨_, rfl, ?_⟩
                    have n0_ := Aside0.mk (Kd.N_mono (Kd.N_told (Kd.N_told (Kd.N_old (by exact pN HO_0.out) hb) (Kd.R_base ho1)) (Kd.N_base ho3)) (fun _ h_ => h_.1))
                    have n1_ := Aside0.mk (Kd.N_mono (Kd.N_told (Kd.N_told (Kd.N_old (by exact pN HO_1.out) hb) (Kd.R_base ho1)) (Kd.N_base ho3)) (fun _ h_ => h_.1))
                    have n2_ := Aside0.mk (Kd.R_elder' (by exact pR HO_300000.out) (Kd.R_base ho1) hb)
                    have n3_ := Aside0.mk (Kd.R_elder' (by exact pR HO_300001.out) (Kd.R_base ho1) hb)
                    have n4_ := Aside0.mk (Kd.N_mono (Kd.N_told (Kd.N_told (Kd.N_old (by exact pN HO326.out) hb) (Kd.R_base ho1)) (Kd.N_base ho3)) (fun _ h_ => h_.1))
                    have n5_ := Aside0.mk (Kd.R_elder' (by exact pR HO330.out) (Kd.R_base ho1) hb)
                    have n6_ := Aside0.mk (Kd.R_elder' (by exact pR HO333.out) (Kd.R_base ho1) hb)
                    have n7_ := Aside0.mk (Kd.V_lower (Kd.V_mono (ok' := fun k_ => some k_ ≠ (v338 : Value).ownBlock ∧ some k_ ≠ (v345 : Value).ownBlock ∧ some k_ ≠ (.slice Ao27 t293.length co27 : Value).ownBlock ∧ some k_ ≠ (.slice Ao52 t296.length co52 : Value).ownBlock ∧ some k_ ≠ (.slice Ao57 x300000_2.length co57 : Value).ownBlock ∧ some k_ ≠ (.slice Ao58 x300001_2.length co58 : Value).ownBlock ∧ some k_ ≠ (v325 : Value).ownBlock ∧ some k_ ≠ (.slice Ao62 t328.length co62 : Value).ownBlock ∧ some k_ ≠ (.slice Ao63 t331.length co63 : Value).ownBlock ∧ k_ ≠ gb299 ∧ k_ ≠ gb347) ho0 (fun k_ hk_ => ⟨hk_.2.1, hk_.2.2, (Kd.fresh' (Kd.N_lt (by exact pN HO_0.out)) k_ hk_.1), (Kd.fresh' (Kd.N_lt (by exact pN HO_1.out)) k_ hk_.1), (Kd.fresh' (Kd.R_lt (by exact pR HO_300000.out)) k_ hk_.1), (Kd.fresh' (Kd.R_lt (by exact pR HO_300001.out)) k_ hk_.1), (Kd.fresh' (Kd.N_lt (by exact pN HO326.out)) k_ hk_.1), (Kd.fresh' (Kd.R_lt (by exact pR HO330.out)) k_ hk_.1), (Kd.fresh' (Kd.R_lt (by exact pR HO333.out)) k_ hk_.1), (Kd.freshB (g := gb299) (o := .cells #[.slice Ao57 x300000_2.length co57, .slice Ao58 x300001_2.length co58] 24 (0, 0)) (by exact pK BK299.out) k_ hk_.1), (Kd.freshB (g := gb347) (o := .cells #[.slice none 0 0, .slice none 0 0] 24 (0, 0)) (by exact pK BK347.out) k_ hk_.1)⟩)) (below_size (by exact pB HB.out)))
                    have n8_ := Aside0.mk (Kd.R_lower (Kd.R_new' (Kd.R_new' (Kd.R_new' (Kd.R_new' (Kd.R_mono (ok' := fun k_ => True) ho1 (fun _ hk_ => trivial)) (Kd.R_lt (by exact pR HO_300000.out))) (Kd.R_lt (by exact pR HO_300001.out))) (Kd.R_lt (by exact pR HO330.out))) (Kd.R_lt (by exact pR HO333.out))) (below_size (by exact pB HB.out)))
                    have n9_ := Aside0.mk (Kd.V_lower (Kd.V_mono (ok' := fun k_ => some k_ ≠ (v338 : Value).ownBlock ∧ some k_ ≠ (v345 : Value).ownBlock ∧ some k_ ≠ (.slice Ao27 t293.length co27 : Value).ownBlock ∧ some k_ ≠ (.slice Ao52 t296.length co52 : Value).ownBlock ∧ some k_ ≠ (.slice Ao57 x300000_2.length co57 : Value).ownBlock ∧ some k_ ≠ (.slice Ao58 x300001_2.length co58 : Value).ownBlock ∧ some k_ ≠ (v325 : Value).ownBlock ∧ some k_ ≠ (.slice Ao62 t328.length co62 : Value).ownBlock ∧ some k_ ≠ (.slice Ao63 t331.length co63 : Value).ownBlock ∧ k_ ≠ gb299 ∧ k_ ≠ gb347) ho2 (fun k_ hk_ => ⟨hk_.2.1, hk_.2.2, (Kd.fresh' (Kd.N_lt (by exact pN HO_0.out)) k_ hk_.1), (Kd.fresh' (Kd.N_lt (by exact pN HO_1.out)) k_ hk_.1), (Kd.fresh' (Kd.R_lt (by exact pR HO_300000.out)) k_ hk_.1), (Kd.fresh' (Kd.R_lt (by exact pR HO_300001.out)) k_ hk_.1), (Kd.fresh' (Kd.N_lt (by exact pN HO326.out)) k_ hk_.1), (Kd.fresh' (Kd.R_lt (by exact pR HO330.out)) k_ hk_.1), (Kd.fresh' (Kd.R_lt (by exact pR HO333.out)) k_ hk_.1), (Kd.freshB (g := gb299) (o := .cells #[.slice Ao57 x300000_2.length co57, .slice Ao58 x300001_2.length co58] 24 (0, 0)) (by exact pK BK299.out) k_ hk_.1), (Kd.freshB (g := gb347) (o := .cells #[.slice none 0 0, .slice none 0 0] 24 (0, 0)) (by exact pK BK347.out) k_ hk_.1)⟩)) (below_size (by exact pB HB.out)))
                    have n10_ := Aside0.mk (Kd.N_lower (Kd.N_mono (ok' := fun k_ => some k_ ≠ (v338 : Value).ownBlock ∧ some k_ ≠ (.slice Ao27 t293.length co27 : Value).ownBlock ∧ some k_ ≠ (.slice Ao52 t296.length co52 : Value).ownBlock ∧ some k_ ≠ (.slice Ao57 x300000_2.length co57 : Value).ownBlock ∧ some k_ ≠ (.slice Ao58 x300001_2.length co58 : Value).ownBlock ∧ some k_ ≠ (v325 : Value).ownBlock ∧ some k_ ≠ (.slice Ao62 t328.length co62 : Value).ownBlock ∧ some k_ ≠ (.slice Ao63 t331.length co63 : Value).ownBlock ∧ k_ ≠ gb299 ∧ k_ ≠ gb347) ho3 (fun k_ hk_ => ⟨hk_.2, (Kd.fresh' (Kd.N_lt (by exact pN HO_0.out)) k_ hk_.1), (Kd.fresh' (Kd.N_lt (by exact pN HO_1.out)) k_ hk_.1), (Kd.fresh' (Kd.R_lt (by exact pR HO_300000.out)) k_ hk_.1), (Kd.fresh' (Kd.R_lt (by exact pR HO_300001.out)) k_ hk_.1), (Kd.fresh' (Kd.N_lt (by exact pN HO326.out)) k_ hk_.1), (Kd.fresh' (Kd.R_lt (by exact pR HO330.out)) k_ hk_.1), (Kd.fresh' (Kd.R_lt (by exact pR HO333.out)) k_ hk_.1), (Kd.freshB (g := gb299) (o := .cells #[.slice Ao57 x300000_2.length co57, .slice Ao58 x300001_2.length co58] 24 (0, 0)) (by exact pK BK299.out) k_ hk_.1), (Kd.freshB (g := gb347) (o := .cells #[.slice none 0 0, .slice none 0 0] 24 (0, 0)) (by exact pK BK347.out) k_ hk_.1)⟩)) (below_size (by exact pB HB.out)))
                    have n11_ := Aside0.mk (blk_below (g := gb299) (o := .cells #[.slice Ao57 x300000_2.length co57, .slice Ao58 x300001_2.length co58] 24 (0, 0)) (by exact pK BK299.out) hb)
                    have n12_ := Aside0.mk (blk_below (g := gb347) (o := .cells #[.slice none 0 0, .slice none 0 0] 24 (0, 0)) (by exact pK BK347.out) hb)
                    have n13_ := Aside0.mk (below_step (by exact pB HB.out) hb)
                    clear HO_0
                    clear HO_1
                    clear HO_300000
                    clear HO_300001
                    clear HO326
                    clear HO330
                    clear HO333
                    clear BK299
                    clear BK347
                    clear HB
                    have HO_0 := n0_
                    have HO_1 := n1_
                    have HO_300000 := n2_
                    have HO_300001 := n3_
                    have HO326 := n4_
                    have HO330 := n5_
                    have HO333 := n6_
                    have HO336 := n7_
                    have HO339 := n8_
                    have HO342 := n9_
                    have HO346 := n10_
                    have BK299 := n11_
                    have BK347 := n12_
                    have HB := n13_
                    clear n0_ n1_ n2_ n3_ n4_ n5_ n6_ n7_ n8_ n9_ n10_ n11_ n12_ n13_
                    (try clear hb)
                    (try clear hb2)
                    (try clear hk)
                    (try clear hi)
                    (try clear ho0)
                    (try clear ho1)
                    (try clear ho2)
                    (try clear ho3)
                    refine hK.out _ _ ⟨(blk_cell BK299.out 0).trans rfl, (blk_cell BK299.out 1).trans rfl⟩ (fun hHeld => ?_)
                    clear hK K
                    refine norm_ (a' := ?_) ?_ ?_
                    rotate_left
                    · show Act.put _ (some 76) _ = _
                      simp only [Act.put, List.setIfInBounds_toArray, List.set_cons_zero, List.set_cons_succ, i64_w, i32_w]
                      rfl
                    refine pure_ (i := 5) (N := some 71) (v := ?_) (a' := ?_) #[true, true, true, true, true, true, false, false, false, false, true, false, false, false, false] rfl rfl (any_of HT_.out (by kernel_rfl)) (fun _ _ _ h => h) (Or.inl ⟨by rfl, ?_⟩) ?_ ?_
                    rotate_left
                    · intro w'
                      go_simp
                      with_reducible rfl
                    rotate_left
                    · simp only [Act.put, List.setIfInBounds_toArray, List.set_cons_zero, List.set_cons_succ, i64_w, i32_w]
                      rfl
                    refine pure_ (i := 6) (N := some 77) (v := ?_) (a' := ?_) #[true, true, true, true, true, true, true, false, false, false, true, false, false, false, false] rfl rfl (any_of HT_.out (by kernel_rfl)) (fun _ _ _ h => h) (Or.inl ⟨by rfl, ?_⟩) ?_ ?_
                    rotate_left
                    · intro w'
                      go_simp
                      with_reducible rfl
                    rotate_left
                    · simp only [Act.put, List.setIfInBounds_toArray, List.set_cons_zero, List.set_cons_succ, i64_w, i32_w]
                      rfl
                    refine pure_ (i := 7) (N := some 78) (v := ?_) (a' := ?_) #[true, true, true, true, true, true, true, true, false, false, true, false, false, false, false] rfl rfl (any_of HT_.out (by kernel_rfl)) (fun _ _ _ h => h) (Or.inl ⟨by rfl, ?_⟩) ?_ ?_
                    rotate_left
                    · intro w'
                      go_simp
                      with_reducible rfl
                    rotate_left
                    · simp only [Act.put, List.setIfInBounds_toArray, List.set_cons_zero, List.set_cons_succ, i64_w, i32_w]
                      rfl
                    refine pure_ (i := 8) (N := some 79) (v := ?_) (a' := ?_) #[true, true, true, true, true, true, true, true, true, false, true, false, false, false, false] rfl rfl (any_of HT_.out (by kernel_rfl)) (fun _ _ _ h => h) (Or.inl ⟨by rfl, ?_⟩) ?_ ?_
                    rotate_left
                    · intro w'
                      go_simp
                      with_reducible rfl
                    rotate_left
                    · simp only [Act.put, List.setIfInBounds_toArray, List.set_cons_zero, List.set_cons_succ, i64_w, i32_w]
                      rfl
                    refine pure_ (i := 9) (N := some 80) (v := ?_) (a' := ?_) #[true, true, true, true, true, true, true, true, true, true, true, false, false, false, false] rfl rfl (any_of HT_.out (by kernel_rfl)) (fun _ _ _ h => h) (Or.inl ⟨by rfl, ?_⟩) ?_ ?_
                    rotate_left
                    · intro w'
                      go_simp
                      with_reducible rfl
                    rotate_left
                    · simp only [Act.put, List.setIfInBounds_toArray, List.set_cons_zero, List.set_cons_succ, i64_w, i32_w]
                      rfl
                    exact norm_ (by simp only [putAll, Act.put, List.setIfInBounds_toArray, List.set_cons_zero, List.set_cons_succ]) (hCont (.slice Ao62 t328.length co62, .slice Ao63 t331.length co63, v335, v338, v341, v345, gb347) _ ⟨hHeld, (by exact pN (Kd.N_mono HO326.out (fun _ hk => ⟨hk.1.1.1.2, ⟨hk.1.1.2, ⟨hk.1.2, ⟨hk.2, ⟨hk.1.1.1.1.1.1, ⟨hk.1.1.1.1.1.2.1, ⟨hk.1.1.1.1.1.2.2, hk.1.1.1.1.2⟩⟩⟩⟩⟩⟩⟩))), (by exact pR (Kd.R_mono HO330.out (fun _ hk => ⟨hk.1.1.1, ⟨hk.2, ⟨hk.1.1.2, hk.1.2⟩⟩⟩))), (by exact pR (Kd.R_mono HO333.out (fun _ hk => ⟨hk.1.1.1, ⟨hk.2, ⟨hk.1.1.2, hk.1.2⟩⟩⟩))), (by exact pV (Kd.V_mono HO336.out (fun _ hk => ⟨hk.2.2.2.2.2.2.1, ⟨hk.2.2.2.2.2.2.2.1, ⟨hk.2.2.2.2.2.2.2.2.1, ⟨hk.1, ⟨hk.2.1, ⟨hk.2.2.1, ⟨hk.2.2.2.1, ⟨hk.2.2.2.2.1, ⟨hk.2.2.2.2.2.1, ⟨hk.2.2.2.2.2.2.2.2.2.1, hk.2.2.2.2.2.2.2.2.2.2⟩⟩⟩⟩⟩⟩⟩⟩⟩⟩))), (by exact pR (Kd.R_mono HO339.out (fun _ hk => ⟨hk.1.2, ⟨hk.2, ⟨hk.1.1.1.2, hk.1.1.2⟩⟩⟩))), (by exact pV (Kd.V_mono HO342.out (fun _ hk => ⟨hk.2.2.2.2.2.2.1, ⟨hk.2.2.2.2.2.2.2.1, ⟨hk.2.2.2.2.2.2.2.2.1, ⟨hk.1, ⟨hk.2.1, ⟨hk.2.2.1, ⟨hk.2.2.2.1, ⟨hk.2.2.2.2.1, ⟨hk.2.2.2.2.2.1, ⟨hk.2.2.2.2.2.2.2.2.2.1, hk.2.2.2.2.2.2.2.2.2.2⟩⟩⟩⟩⟩⟩⟩⟩⟩⟩))), (by exact pN (Kd.N_mono HO346.out (fun _ hk => ⟨hk.2.2.2.2.2.1, ⟨hk.2.2.2.2.2.2.1, ⟨hk.2.2.2.2.2.2.2.1, ⟨hk.1, ⟨hk.2.1, ⟨hk.2.2.1, ⟨hk.2.2.2.1, ⟨hk.2.2.2.2.1, ⟨hk.2.2.2.2.2.2.2.2.1, hk.2.2.2.2.2.2.2.2.2⟩⟩⟩⟩⟩⟩⟩⟩⟩))), (by exact pN (Kd.N_mono HO_0.out (fun _ hk => ⟨hk.1.1.1.1.1.2, ⟨hk.1.1.1.2, ⟨hk.1.1.2, ⟨hk.1.2, ⟨hk.2, ⟨hk.1.1.1.1.1.1.1, ⟨hk.1.1.1.1.1.1.2.1, ⟨hk.1.1.1.1.1.1.2.2.1, ⟨hk.1.1.1.1.1.1.2.2.2, hk.1.1.1.1.2⟩⟩⟩⟩⟩⟩⟩⟩⟩))), (by exact pN (Kd.N_mono HO_1.out (fun _ hk => ⟨hk.1.1.1.1.1.2, ⟨hk.1.1.1.2, ⟨hk.1.1.2, ⟨hk.1.2, ⟨hk.2, ⟨hk.1.1.1.1.1.1.1, ⟨hk.1.1.1.1.1.1.2.1, ⟨hk.1.1.1.1.1.1.2.2.1, ⟨hk.1.1.1.1.1.1.2.2.2, hk.1.1.1.1.2⟩⟩⟩⟩⟩⟩⟩⟩⟩))), (by exact pR (Kd.R_mono HO_300000.out (fun _ hk => ⟨hk.1.1.2, ⟨hk.1.2, ⟨hk.2, hk.1.1.1⟩⟩⟩))), (by exact pR (Kd.R_mono HO_300001.out (fun _ hk => ⟨hk.1.1.2, ⟨hk.1.2, ⟨hk.2, hk.1.1.1⟩⟩⟩))), (by exact pK BK299.out), (by exact pK BK347.out), GW347.out, GE347.out, NB299_347.out, NB347_299.out, (by exact pB HB.out)⟩)
                · skip
                  refine box_step ?hg (N := 15) ?hd (cs := #[.slice none 0 0, .slice none 0 0]) (t := 24) ?hr ?_; (case hd => rfl); (case hg => rfl); (case hr => first | (go_simp; done) | (go_simp; rfl))
                  intro gb347 hg w60 hbox hb
                  have n0_ := Aside0.mk (Kd.N_below (Kd.N_elderB (by exact pN HO_0.out) gb347 (Nat.le_of_eq hg.symm)) hb)
                  have n1_ := Aside0.mk (Kd.N_below (Kd.N_elderB (by exact pN HO_1.out) gb347 (Nat.le_of_eq hg.symm)) hb)
                  have n2_ := Aside0.mk (Kd.R_below (by exact pR HO_300000.out) hb)
                  have n3_ := Aside0.mk (Kd.R_below (by exact pR HO_300001.out) hb)
                  have n4_ := Aside0.mk (Kd.N_below (Kd.N_elderB (by exact pN HO326.out) gb347 (Nat.le_of_eq hg.symm)) hb)
                  have n5_ := Aside0.mk (blk_below (g := gb299) (o := .cells #[.slice Ao57 x300000_2.length co57, .slice Ao58 x300001_2.length co58] 24 (0, 0)) (by exact pK BK299.out) hb)
                  have n6_ := Aside0.mk (below_step (by exact pB HB.out) hb)
                  have n7_ := Aside0.mk (hbox)
                  have n8_ := Aside0.mk ((by rw [hg]; exact (below_size (by exact pB HB.out)) : w.heap.size ≤ gb347))
                  have n9_ := Aside0.mk ((by rw [hg]; exact (below_size (by exact pB HB.out)) : w.heap.size ≤ gb347))
                  have n10_ := Aside0.mk ((by rw [hg]; exact Nat.ne_of_lt (blk_lt (g := gb299) (o := .cells #[.slice Ao57 x300000_2.length co57, .slice Ao58 x300001_2.length co58] 24 (0, 0)) (by exact pK BK299.out)) : gb299 ≠ gb347))
                  have n11_ := Aside0.mk ((by rw [hg]; exact Nat.ne_of_gt (blk_lt (g := gb299) (o := .cells #[.slice Ao57 x300000_2.length co57, .slice Ao58 x300001_2.length co58] 24 (0, 0)) (by exact pK BK299.out)) : gb347 ≠ gb299))
                  clear HO_0
                  clear HO_1
                  clear HO_300000
                  clear HO_300001
                  clear HO326
                  clear BK299
                  clear HB
                  have HO_0 := n0_
                  have HO_1 := n1_
                  have HO_300000 := n2_
                  have HO_300001 := n3_
                  have HO326 := n4_
                  have BK299 := n5_
                  have HB := n6_
                  have BK347 := n7_
                  have GW347 := n8_
                  have GE347 := n9_
                  have NB299_347 := n10_
                  have NB347_299 := n11_
                  clear n0_ n1_ n2_ n3_ n4_ n5_ n6_ n7_ n8_ n9_ n10_ n11_
                  clear hb hbox hg
                  refine hK.out _ _ ⟨(blk_cell BK299.out 0).trans rfl, (blk_cell BK299.out 1).trans rfl⟩ (fun hHeld => ?_)
                  clear hK K
                  refine norm_ (a' := ?_) ?_ ?_
                  rotate_left
                  · show Act.put _ (some 15) _ = _
                    simp only [Act.put, List.setIfInBounds_toArray, List.set_cons_zero, List.set_cons_succ, i64_w, i32_w]
                    rfl
                  refine one_ (i := 2) (N := some 74) #[true, true, true, false, false, false, false, false, false, false, true, false, false, false, false] rfl rfl (one_of HT_.out (by kernel_rfl)) (by decide) (fun K hK => ?_)
                  refine goes_ Try.func23 (by kernel_rfl) rfl #[.int .i64 a2, .int .i64 5000] (by rfl) rfl rfl (by (try simp only [List.map_toArray, List.map_cons, List.map_nil]); first | done | rfl | (simp only [List.length_drop, List.length_take]; rfl)) ?_
                  with_reducible refine (customsmade_Within.calls a2 5000 t327 _ A48.out).mono ?_
                  rintro e w' ⟨rfl, ⟨nd, rfl⟩⟩
                  refine ⟨_, rfl, ?_⟩
                  refine hK.out _ _ ⟨(blk_cell BK299.out 0).trans rfl, (blk_cell BK299.out 1).trans rfl⟩ (fun hHeld => ?_)
                  clear hK K
                  refine norm_ (a' := ?_) ?_ ?_
                  rotate_left
                  · show Act.put _ (some 74) _ = _
                    simp only [Act.put, List.setIfInBounds_toArray, List.set_cons_zero, List.set_cons_succ, i64_w, i32_w]
                    rfl
                  refine one_ (i := 3) (N := some 75) #[true, true, true, true, false, false, false, false, false, false, true, false, false, false, false] rfl rfl (one_of HT_.out (by kernel_rfl)) (by decide) (fun K hK => ?_)
                  refine goes_ Try.func21 (by kernel_rfl) rfl #[.agg #[.slice Ao57 x300000_2.length co57, .slice Ao58 x300001_2.length co58], .int .i64 t327] (by rfl) rfl rfl (by (try simp only [List.map_toArray, List.map_cons, List.map_nil]); first | done | rfl | (simp only [List.length_drop, List.length_take]; rfl)) ?_
                  with_reducible refine (disk_Crash.calls _ _ x300000_2 _ _ x300001_2 t327 t328 t331 _ ?side1 ?side2 ?side3 ?side4 A49.out).mono ?_
                  (case side1 => exact pC (Kd.R_reads' HO_300000.out).2.2)
                  (case side2 => exact (Kd.R_reads' HO_300000.out).2.1)
                  (case side3 => exact pC (Kd.R_reads' HO_300001.out).2.2)
                  (case side4 => exact (Kd.R_reads' HO_300001.out).2.1)
                  rintro e w61 ⟨v329, v332, rfl, ho0, ho1, hb⟩
                  refine ⟨_, rfl, ?_⟩
                  have n0_ := Aside0.mk (Kd.N_mono (Kd.N_told (Kd.N_told (Kd.N_old (by exact pN HO_0.out) hb) (Kd.R_base ho0)) (Kd.R_base ho1)) (fun _ h_ => h_.1))
                  have n1_ := Aside0.mk (Kd.N_mono (Kd.N_told (Kd.N_told (Kd.N_old (by exact pN HO_1.out) hb) (Kd.R_base ho0)) (Kd.R_base ho1)) (fun _ h_ => h_.1))
                  have n2_ := Aside0.mk (Kd.R_mono (Kd.R_told (Kd.R_told (Kd.R_old (by exact pR HO_300000.out) hb) (Kd.R_base ho0)) (Kd.R_base ho1)) (fun _ h_ => h_.1))
                  have n3_ := Aside0.mk (Kd.R_mono (Kd.R_told (Kd.R_told (Kd.R_old (by exact pR HO_300001.out) hb) (Kd.R_base ho0)) (Kd.R_base ho1)) (fun _ h_ => h_.1))
                  have n4_ := Aside0.mk (Kd.N_mono (Kd.N_told (Kd.N_told (Kd.N_old (by exact pN HO326.out) hb) (Kd.R_base ho0)) (Kd.R_base ho1)) (fun _ h_ => h_.1))
                  have n5_ := Aside0.mk (Kd.R_lower (Kd.R_new' (Kd.R_new' ho0 (Kd.R_lt (by exact pR HO_300000.out))) (Kd.R_lt (by exact pR HO_300001.out))) (below_size (by exact pB HB.out)))
                  have n6_ := Aside0.mk (Kd.R_lower (Kd.R_new' (Kd.R_new' ho1 (Kd.R_lt (by exact pR HO_300000.out))) (Kd.R_lt (by exact pR HO_300001.out))) (below_size (by exact pB HB.out)))
                  have n7_ := Aside0.mk (blk_below (g := gb299) (o := .cells #[.slice Ao57 x300000_2.length co57, .slice Ao58 x300001_2.length co58] 24 (0, 0)) (by exact pK BK299.out) hb)
                  have n8_ := Aside0.mk (blk_below (g := gb347) (o := .cells #[.slice none 0 0, .slice none 0 0] 24 (0, 0)) (by exact pK BK347.out) hb)
                  have n9_ := Aside0.mk (below_step (by exact pB HB.out) hb)
                  clear HO_0
                  clear HO_1
                  clear HO_300000
                  clear HO_300001
                  clear HO326
                  clear BK299
                  clear BK347
                  clear HB
                  have HO_0 := n0_
                  have HO_1 := n1_
                  have HO_300000 := n2_
                  have HO_300001 := n3_
                  have HO326 := n4_
                  have HO330 := n5_
                  have HO333 := n6_
                  have BK299 := n7_
                  have BK347 := n8_
                  have HB := n9_
                  clear n0_ n1_ n2_ n3_ n4_ n5_ n6_ n7_ n8_ n9_
                  (try clear hb)
                  (try clear hb2)
                  (try clear hk)
                  (try clear hi)
                  (try clear ho0)
                  (try clear ho1)
                  obtain ⟨Ao62, co62, eo62⟩ := Kd.R_slice HO330.out
                  (first | subst eo62 | (injection eo62 with f1_ f2_ f3_; have f4_ := f1_.symm; have f5_ := f3_.symm; clear f1_ f2_ f3_; subst f4_; subst f5_))
                  obtain ⟨Ao63, co63, eo63⟩ := Kd.R_slice HO333.out
                  (first | subst eo63 | (injection eo63 with f1_ f2_ f3_; have f4_ := f1_.symm; have f5_ := f3_.symm; clear f1_ f2_ f3_; subst f4_; subst f5_))
                  refine hK.out _ _ ⟨(blk_cell BK299.out 0).trans rfl, (blk_cell BK299.out 1).trans rfl⟩ (fun hHeld => ?_)
                  clear hK K
                  refine norm_ (a' := ?_) ?_ ?_
                  rotate_left
                  · show Act.put _ (some 75) _ = _
                    simp only [Act.put, List.setIfInBounds_toArray, List.set_cons_zero, List.set_cons_succ, i64_w, i32_w]
                    rfl
                  refine one_ (i := 4) (N := some 76) #[true, true, true, true, true, false, false, false, false, false, true, false, false, false, false] rfl rfl (one_of HT_.out (by kernel_rfl)) (by decide) (fun K hK => ?_)
                  refine goes_ Try.func38 (by kernel_rfl) rfl #[.agg #[.slice Ao62 t328.length co62, .slice Ao63 t331.length co63]] (by rfl) rfl rfl (by (try simp only [List.map_toArray, List.map_cons, List.map_nil]); first | done | rfl | (simp only [List.length_drop, List.length_take]; rfl)) ?_
                  with_reducible refine (journal_Open.calls k2 _ _ t328 _ _ t331 t334 t337 t340 t343 t344 _ ?side1 ?side2 ?side3 ?side4 A50.out).mono ?_
                  (case side1 => exact pC (Kd.R_reads' HO330.out).2.2)
                  (case side2 => exact (Kd.R_reads' HO330.out).2.1)
                  (case side3 => exact pC (Kd.R_reads' HO333.out).2.2)
                  (case side4 => exact (Kd.R_reads' HO333.out).2.1)
                  rintro e w64 ⟨v335, v338, v341, v345, rfl, ho0, ho1, ho2, ho3, hb⟩
                  refine ⟨_, rfl, ?_⟩
                  have n0_ := Aside0.mk (Kd.N_mono (Kd.N_told (Kd.N_told (Kd.N_old (by exact pN HO_0.out) hb) (Kd.R_base ho1)) (Kd.N_base ho3)) (fun _ h_ => h_.1))
                  have n1_ := Aside0.mk (Kd.N_mono (Kd.N_told (Kd.N_told (Kd.N_old (by exact pN HO_1.out) hb) (Kd.R_base ho1)) (Kd.N_base ho3)) (fun _ h_ => h_.1))
                  have n2_ := Aside0.mk (Kd.R_elder' (by exact pR HO_300000.out) (Kd.R_base ho1) hb)
                  have n3_ := Aside0.mk (Kd.R_elder' (by exact pR HO_300001.out) (Kd.R_base ho1) hb)
                  have n4_ := Aside0.mk (Kd.N_mono (Kd.N_told (Kd.N_told (Kd.N_old (by exact pN HO326.out) hb) (Kd.R_base ho1)) (Kd.N_base ho3)) (fun _ h_ => h_.1))
                  have n5_ := Aside0.mk (Kd.R_elder' (by exact pR HO330.out) (Kd.R_base ho1) hb)
                  have n6_ := Aside0.mk (Kd.R_elder' (by exact pR HO333.out) (Kd.R_base ho1) hb)
                  have n7_ := Aside0.mk (Kd.V_lower (Kd.V_mono (ok' := fun k_ => some k_ ≠ (v338 : Value).ownBlock ∧ some k_ ≠ (v345 : Value).ownBlock ∧ some k_ ≠ (.slice Ao27 t293.length co27 : Value).ownBlock ∧ some k_ ≠ (.slice Ao52 t296.length co52 : Value).ownBlock ∧ some k_ ≠ (.slice Ao57 x300000_2.length co57 : Value).ownBlock ∧ some k_ ≠ (.slice Ao58 x300001_2.length co58 : Value).ownBlock ∧ some k_ ≠ (v325 : Value).ownBlock ∧ some k_ ≠ (.slice Ao62 t328.length co62 : Value).ownBlock ∧ some k_ ≠ (.slice Ao63 t331.length co63 : Value).ownBlock ∧ k_ ≠ gb299 ∧ k_ ≠ gb347) ho0 (fun k_ hk_ => ⟨hk_.2.1, hk_.2.2, (Kd.fresh' (Kd.N_lt (by exact pN HO_0.out)) k_ hk_.1), (Kd.fresh' (Kd.N_lt (by exact pN HO_1.out)) k_ hk_.1), (Kd.fresh' (Kd.R_lt (by exact pR HO_300000.out)) k_ hk_.1), (Kd.fresh' (Kd.R_lt (by exact pR HO_300001.out)) k_ hk_.1), (Kd.fresh' (Kd.N_lt (by exact pN HO326.out)) k_ hk_.1), (Kd.fresh' (Kd.R_lt (by exact pR HO330.out)) k_ hk_.1), (Kd.fresh' (Kd.R_lt (by exact pR HO333.out)) k_ hk_.1), (Kd.freshB (g := gb299) (o := .cells #[.slice Ao57 x300000_2.length co57, .slice Ao58 x300001_2.length co58] 24 (0, 0)) (by exact pK BK299.out) k_ hk_.1), (Kd.freshB (g := gb347) (o := .cells #[.slice none 0 0, .slice none 0 0] 24 (0, 0)) (by exact pK BK347.out) k_ hk_.1)⟩)) (below_size (by exact pB HB.out)))
                  have n8_ := Aside0.mk (Kd.R_lower (Kd.R_new' (Kd.R_new' (Kd.R_new' (Kd.R_new' (Kd.R_mono (ok' := fun k_ => True) ho1 (fun _ hk_ => trivial)) (Kd.R_lt (by exact pR HO_300000.out))) (Kd.R_lt (by exact pR HO_300001.out))) (Kd.R_lt (by exact pR HO330.out))) (Kd.R_lt (by exact pR HO333.out))) (below_size (by exact pB HB.out)))
                  have n9_ := Aside0.mk (Kd.V_lower (Kd.V_mono (ok' := fun k_ => some k_ ≠ (v338 : Value).ownBlock ∧ some k_ ≠ (v345 : Value).ownBlock ∧ some k_ ≠ (.slice Ao27 t293.length co27 : Value).ownBlock ∧ some k_ ≠ (.slice Ao52 t296.length co52 : Value).ownBlock ∧ some k_ ≠ (.slice Ao57 x300000_2.length co57 : Value).ownBlock ∧ some k_ ≠ (.slice Ao58 x300001_2.length co58 : Value).ownBlock ∧ some k_ ≠ (v325 : Value).ownBlock ∧ some k_ ≠ (.slice Ao62 t328.length co62 : Value).ownBlock ∧ some k_ ≠ (.slice Ao63 t331.length co63 : Value).ownBlock ∧ k_ ≠ gb299 ∧ k_ ≠ gb347) ho2 (fun k_ hk_ => ⟨hk_.2.1, hk_.2.2, (Kd.fresh' (Kd.N_lt (by exact pN HO_0.out)) k_ hk_.1), (Kd.fresh' (Kd.N_lt (by exact pN HO_1.out)) k_ hk_.1), (Kd.fresh' (Kd.R_lt (by exact pR HO_300000.out)) k_ hk_.1), (Kd.fresh' (Kd.R_lt (by exact pR HO_300001.out)) k_ hk_.1), (Kd.fresh' (Kd.N_lt (by exact pN HO326.out)) k_ hk_.1), (Kd.fresh' (Kd.R_lt (by exact pR HO330.out)) k_ hk_.1), (Kd.fresh' (Kd.R_lt (by exact pR HO333.out)) k_ hk_.1), (Kd.freshB (g := gb299) (o := .cells #[.slice Ao57 x300000_2.length co57, .slice Ao58 x300001_2.length co58] 24 (0, 0)) (by exact pK BK299.out) k_ hk_.1), (Kd.freshB (g := gb347) (o := .cells #[.slice none 0 0, .slice none 0 0] 24 (0, 0)) (by exact pK BK347.out) k_ hk_.1)⟩)) (below_size (by exact pB HB.out)))
                  have n10_ := Aside0.mk (Kd.N_lower (Kd.N_mono (ok' := fun k_ => some k_ ≠ (v338 : Value).ownBlock ∧ some k_ ≠ (.slice Ao27 t293.length co27 : Value).ownBlock ∧ some k_ ≠ (.slice Ao52 t296.length co52 : Value).ownBlock ∧ some k_ ≠ (.slice Ao57 x300000_2.length co57 : Value).ownBlock ∧ some k_ ≠ (.slice Ao58 x300001_2.length co58 : Value).ownBlock ∧ some k_ ≠ (v325 : Value).ownBlock ∧ some k_ ≠ (.slice Ao62 t328.length co62 : Value).ownBlock ∧ some k_ ≠ (.slice Ao63 t331.length co63 : Value).ownBlock ∧ k_ ≠ gb299 ∧ k_ ≠ gb347) ho3 (fun k_ hk_ => ⟨hk_.2, (Kd.fresh' (Kd.N_lt (by exact pN HO_0.out)) k_ hk_.1), (Kd.fresh' (Kd.N_lt (by exact pN HO_1.out)) k_ hk_.1), (Kd.fresh' (Kd.R_lt (by exact pR HO_300000.out)) k_ hk_.1), (Kd.fresh' (Kd.R_lt (by exact pR HO_300001.out)) k_ hk_.1), (Kd.fresh' (Kd.N_lt (by exact pN HO326.out)) k_ hk_.1), (Kd.fresh' (Kd.R_lt (by exact pR HO330.out)) k_ hk_.1), (Kd.fresh' (Kd.R_lt (by exact pR HO333.out)) k_ hk_.1), (Kd.freshB (g := gb299) (o := .cells #[.slice Ao57 x300000_2.length co57, .slice Ao58 x300001_2.length co58] 24 (0, 0)) (by exact pK BK299.out) k_ hk_.1), (Kd.freshB (g := gb347) (o := .cells #[.slice none 0 0, .slice none 0 0] 24 (0, 0)) (by exact pK BK347.out) k_ hk_.1)⟩)) (below_size (by exact pB HB.out)))
                  have n11_ := Aside0.mk (blk_below (g := gb299) (o := .cells #[.slice Ao57 x300000_2.length co57, .slice Ao58 x300001_2.length co58] 24 (0, 0)) (by exact pK BK299.out) hb)
                  have n12_ := Aside0.mk (blk_below (g := gb347) (o := .cells #[.slice none 0 0, .slice none 0 0] 24 (0, 0)) (by exact pK BK347.out) hb)
                  have n13_ := Aside0.mk (below_step (by exact pB HB.out) hb)
                  clear HO_0
                  clear HO_1
                  clear HO_300000
                  clear HO_300001
                  clear HO326
                  clear HO330
                  clear HO333
                  clear BK299
                  clear BK347
                  clear HB
                  have HO_0 := n0_
                  have HO_1 := n1_
                  have HO_300000 := n2_
                  have HO_300001 := n3_
                  have HO326 := n4_
                  have HO330 := n5_
                  have HO333 := n6_
                  have HO336 := n7_
                  have HO339 := n8_
                  have HO342 := n9_
                  have HO346 := n10_
                  have BK299 := n11_
                  have BK347 := n12_
                  have HB := n13_
                  clear n0_ n1_ n2_ n3_ n4_ n5_ n6_ n7_ n8_ n9_ n10_ n11_ n12_ n13_
                  (try clear hb)
                  (try clear hb2)
                  (try clear hk)
                  (try clear hi)
                  (try clear ho0)
                  (try clear ho1)
                  (try clear ho2)
                  (try clear ho3)
                  refine hK.out _ _ ⟨(blk_cell BK299.out 0).trans rfl, (blk_cell BK299.out 1).trans rfl⟩ (fun hHeld => ?_)
                  clear hK K
                  refine norm_ (a' := ?_) ?_ ?_
                  rotate_left
                  · show Act.put _ (some 76) _ = _
                    simp only [Act.put, List.setIfInBounds_toArray, List.set_cons_zero, List.set_cons_succ, i64_w, i32_w]
                    rfl
                  refine pure_ (i := 5) (N := some 71) (v := ?_) (a' := ?_) #[true, true, true, true, true, true, false, false, false, false, true, false, false, false, false] rfl rfl (any_of HT_.out (by kernel_rfl)) (fun _ _ _ h => h) (Or.inl ⟨by rfl, ?_⟩) ?_ ?_
                  rotate_left
                  · intro w'
                    go_simp
                    with_reducible rfl
                  rotate_left
                  · simp only [Act.put, List.setIfInBounds_toArray, List.set_cons_zero, List.set_cons_succ, i64_w, i32_w]
                    rfl
                  refine pure_ (i := 6) (N := some 77) (v := ?_) (a' := ?_) #[true, true, true, true, true, true, true, false, false, false, true, false, false, false, false] rfl rfl (any_of HT_.out (by kernel_rfl)) (fun _ _ _ h => h) (Or.inl ⟨by rfl, ?_⟩) ?_ ?_
                  rotate_left
                  · intro w'
                    go_simp
                    with_reducible rfl
                  rotate_left
                  · simp only [Act.put, List.setIfInBounds_toArray, List.set_cons_zero, List.set_cons_succ, i64_w, i32_w]
                    rfl
                  refine pure_ (i := 7) (N := some 78) (v := ?_) (a' := ?_) #[true, true, true, true, true, true, true, true, false, false, true, false, false, false, false] rfl rfl (any_of HT_.out (by kernel_rfl)) (fun _ _ _ h => h) (Or.inl ⟨by rfl, ?_⟩) ?_ ?_
                  rotate_left
                  · intro w'
                    go_simp
                    with_reducible rfl
                  rotate_left
                  · simp only [Act.put, List.setIfInBounds_toArray, List.set_cons_zero, List.set_cons_succ, i64_w, i32_w]
                    rfl
                  refine pure_ (i := 8) (N := some 79) (v := ?_) (a' := ?_) #[true, true, true, true, true, true, true, true, true, false, true, false, false, false, false] rfl rfl (any_of HT_.out (by kernel_rfl)) (fun _ _ _ h => h) (Or.inl ⟨by rfl, ?_⟩) ?_ ?_
                  rotate_left
                  · intro w'
                    go_simp
                    with_reducible rfl
                  rotate_left
                  · simp only [Act.put, List.setIfInBounds_toArray, List.set_cons_zero, List.set_cons_succ, i64_w, i32_w]
                    rfl
                  refine pure_ (i := 9) (N := some 80) (v := ?_) (a' := ?_) #[true, true, true, true, true, true, true, true, true, true, true, false, false, false, false] rfl rfl (any_of HT_.out (by kernel_rfl)) (fun _ _ _ h => h) (Or.inl ⟨by rfl, ?_⟩) ?_ ?_
                  rotate_left
                  · intro w'
                    go_simp
                    with_reducible rfl
                  rotate_left
                  · simp only [Act.put, List.setIfInBounds_toArray, List.set_cons_zero, List.set_cons_succ, i64_w, i32_w]
                    rfl
                  exact norm_ (by simp only [putAll, Act.put, List.setIfInBounds_toArray, List.set_cons_zero, List.set_cons_succ]) (hCont (.slice Ao62 t328.length co62, .slice Ao63 t331.length co63, v335, v338, v341, v345, gb347) _ ⟨hHeld, (by exact pN (Kd.N_mono HO326.out (fun _ hk => ⟨hk.1.1.1.2, ⟨hk.1.1.2, ⟨hk.1.2, ⟨hk.2, ⟨hk.1.1.1.1.1.1, ⟨hk.1.1.1.1.1.2.1, ⟨hk.1.1.1.1.1.2.2, hk.1.1.1.1.2⟩⟩⟩⟩⟩⟩⟩))), (by exact pR (Kd.R_mono HO330.out (fun _ hk => ⟨hk.1.1.1, ⟨hk.2, ⟨hk.1.1.2, hk.1.2⟩⟩⟩))), (by exact pR (Kd.R_mono HO333.out (fun _ hk => ⟨hk.1.1.1, ⟨hk.2, ⟨hk.1.1.2, hk.1.2⟩⟩⟩))), (by exact pV (Kd.V_mono HO336.out (fun _ hk => ⟨hk.2.2.2.2.2.2.1, ⟨hk.2.2.2.2.2.2.2.1, ⟨hk.2.2.2.2.2.2.2.2.1, ⟨hk.1, ⟨hk.2.1, ⟨hk.2.2.1, ⟨hk.2.2.2.1, ⟨hk.2.2.2.2.1, ⟨hk.2.2.2.2.2.1, ⟨hk.2.2.2.2.2.2.2.2.2.1, hk.2.2.2.2.2.2.2.2.2.2⟩⟩⟩⟩⟩⟩⟩⟩⟩⟩))), (by exact pR (Kd.R_mono HO339.out (fun _ hk => ⟨hk.1.2, ⟨hk.2, ⟨hk.1.1.1.2, hk.1.1.2⟩⟩⟩))), (by exact pV (Kd.V_mono HO342.out (fun _ hk => ⟨hk.2.2.2.2.2.2.1, ⟨hk.2.2.2.2.2.2.2.1, ⟨hk.2.2.2.2.2.2.2.2.1, ⟨hk.1, ⟨hk.2.1, ⟨hk.2.2.1, ⟨hk.2.2.2.1, ⟨hk.2.2.2.2.1, ⟨hk.2.2.2.2.2.1, ⟨hk.2.2.2.2.2.2.2.2.2.1, hk.2.2.2.2.2.2.2.2.2.2⟩⟩⟩⟩⟩⟩⟩⟩⟩⟩))), (by exact pN (Kd.N_mono HO346.out (fun _ hk => ⟨hk.2.2.2.2.2.1, ⟨hk.2.2.2.2.2.2.1, ⟨hk.2.2.2.2.2.2.2.1, ⟨hk.1, ⟨hk.2.1, ⟨hk.2.2.1, ⟨hk.2.2.2.1, ⟨hk.2.2.2.2.1, ⟨hk.2.2.2.2.2.2.2.2.1, hk.2.2.2.2.2.2.2.2.2⟩⟩⟩⟩⟩⟩⟩⟩⟩))), (by exact pN (Kd.N_mono HO_0.out (fun _ hk => ⟨hk.1.1.1.1.1.2, ⟨hk.1.1.1.2, ⟨hk.1.1.2, ⟨hk.1.2, ⟨hk.2, ⟨hk.1.1.1.1.1.1.1, ⟨hk.1.1.1.1.1.1.2.1, ⟨hk.1.1.1.1.1.1.2.2.1, ⟨hk.1.1.1.1.1.1.2.2.2, hk.1.1.1.1.2⟩⟩⟩⟩⟩⟩⟩⟩⟩))), (by exact pN (Kd.N_mono HO_1.out (fun _ hk => ⟨hk.1.1.1.1.1.2, ⟨hk.1.1.1.2, ⟨hk.1.1.2, ⟨hk.1.2, ⟨hk.2, ⟨hk.1.1.1.1.1.1.1, ⟨hk.1.1.1.1.1.1.2.1, ⟨hk.1.1.1.1.1.1.2.2.1, ⟨hk.1.1.1.1.1.1.2.2.2, hk.1.1.1.1.2⟩⟩⟩⟩⟩⟩⟩⟩⟩))), (by exact pR (Kd.R_mono HO_300000.out (fun _ hk => ⟨hk.1.1.2, ⟨hk.1.2, ⟨hk.2, hk.1.1.1⟩⟩⟩))), (by exact pR (Kd.R_mono HO_300001.out (fun _ hk => ⟨hk.1.1.2, ⟨hk.1.2, ⟨hk.2, hk.1.1.1⟩⟩⟩))), (by exact pK BK299.out), (by exact pK BK347.out), GW347.out, GE347.out, NB299_347.out, NB347_299.out, (by exact pB HB.out)⟩)
              rintro ⟨v329, v332, v335, v338, v341, v345, gb347⟩ w65 ⟨hS_, h0_, h1_, h2_, h3_, h4_, h5_, h6_, h7_, h8_, h9_, h10_, h11_, h12_, h13_, h14_, h15_, h16_, h17_⟩
              have n0_ : Aside0 (Kd.N (Kd.slice 5 (Kd.int .u8)) 22 w65 w.heap.size (fun k_ => some k_ ≠ (v329 : Value).ownBlock ∧ some k_ ≠ (v332 : Value).ownBlock ∧ some k_ ≠ (v338 : Value).ownBlock ∧ some k_ ≠ (v345 : Value).ownBlock ∧ some k_ ≠ (.slice Ao57 x300000_2.length co57 : Value).ownBlock ∧ some k_ ≠ (.slice Ao58 x300001_2.length co58 : Value).ownBlock ∧ k_ ≠ gb299 ∧ k_ ≠ gb347) v325 y324) := ⟨h0_⟩
              have n1_ : Aside0 (Kd.R (Kd.int .u8) 5 w65 w.heap.size (fun k_ => some k_ ≠ (v332 : Value).ownBlock ∧ some k_ ≠ (v338 : Value).ownBlock ∧ some k_ ≠ (.slice Ao57 x300000_2.length co57 : Value).ownBlock ∧ some k_ ≠ (.slice Ao58 x300001_2.length co58 : Value).ownBlock) v329 t328) := ⟨h1_⟩
              have n2_ : Aside0 (Kd.R (Kd.int .u8) 5 w65 w.heap.size (fun k_ => some k_ ≠ (v329 : Value).ownBlock ∧ some k_ ≠ (v338 : Value).ownBlock ∧ some k_ ≠ (.slice Ao57 x300000_2.length co57 : Value).ownBlock ∧ some k_ ≠ (.slice Ao58 x300001_2.length co58 : Value).ownBlock) v332 t331) := ⟨h2_⟩
              have n3_ : Aside0 (Kd.V (Kd.int .u8) 5 w65 w.heap.size (fun k_ => some k_ ≠ (v325 : Value).ownBlock ∧ some k_ ≠ (v329 : Value).ownBlock ∧ some k_ ≠ (v332 : Value).ownBlock ∧ some k_ ≠ (v338 : Value).ownBlock ∧ some k_ ≠ (v345 : Value).ownBlock ∧ some k_ ≠ (.slice Ao27 t293.length co27 : Value).ownBlock ∧ some k_ ≠ (.slice Ao52 t296.length co52 : Value).ownBlock ∧ some k_ ≠ (.slice Ao57 x300000_2.length co57 : Value).ownBlock ∧ some k_ ≠ (.slice Ao58 x300001_2.length co58 : Value).ownBlock ∧ k_ ≠ gb299 ∧ k_ ≠ gb347) v335 t334) := ⟨h3_⟩
              have n4_ : Aside0 (Kd.R (Kd.int .u8) 5 w65 w.heap.size (fun k_ => some k_ ≠ (v329 : Value).ownBlock ∧ some k_ ≠ (v332 : Value).ownBlock ∧ some k_ ≠ (.slice Ao57 x300000_2.length co57 : Value).ownBlock ∧ some k_ ≠ (.slice Ao58 x300001_2.length co58 : Value).ownBlock) v338 t337) := ⟨h4_⟩
              have n5_ : Aside0 (Kd.V (Kd.int .u8) 5 w65 w.heap.size (fun k_ => some k_ ≠ (v325 : Value).ownBlock ∧ some k_ ≠ (v329 : Value).ownBlock ∧ some k_ ≠ (v332 : Value).ownBlock ∧ some k_ ≠ (v338 : Value).ownBlock ∧ some k_ ≠ (v345 : Value).ownBlock ∧ some k_ ≠ (.slice Ao27 t293.length co27 : Value).ownBlock ∧ some k_ ≠ (.slice Ao52 t296.length co52 : Value).ownBlock ∧ some k_ ≠ (.slice Ao57 x300000_2.length co57 : Value).ownBlock ∧ some k_ ≠ (.slice Ao58 x300001_2.length co58 : Value).ownBlock ∧ k_ ≠ gb299 ∧ k_ ≠ gb347) v341 t340) := ⟨h5_⟩
              have n6_ : Aside0 (Kd.N (Kd.slice 5 (Kd.int .u8)) 22 w65 w.heap.size (fun k_ => some k_ ≠ (v325 : Value).ownBlock ∧ some k_ ≠ (v329 : Value).ownBlock ∧ some k_ ≠ (v332 : Value).ownBlock ∧ some k_ ≠ (v338 : Value).ownBlock ∧ some k_ ≠ (.slice Ao27 t293.length co27 : Value).ownBlock ∧ some k_ ≠ (.slice Ao52 t296.length co52 : Value).ownBlock ∧ some k_ ≠ (.slice Ao57 x300000_2.length co57 : Value).ownBlock ∧ some k_ ≠ (.slice Ao58 x300001_2.length co58 : Value).ownBlock ∧ k_ ≠ gb299 ∧ k_ ≠ gb347) v345 t344) := ⟨h6_⟩
              have n7_ : Aside0 (Kd.N (Kd.slice 5 (Kd.int .u8)) 22 w65 w.heap.size (fun k_ => some k_ ≠ (v325 : Value).ownBlock ∧ some k_ ≠ (v329 : Value).ownBlock ∧ some k_ ≠ (v332 : Value).ownBlock ∧ some k_ ≠ (v338 : Value).ownBlock ∧ some k_ ≠ (v345 : Value).ownBlock ∧ some k_ ≠ (.slice Ao52 t296.length co52 : Value).ownBlock ∧ some k_ ≠ (.slice Ao57 x300000_2.length co57 : Value).ownBlock ∧ some k_ ≠ (.slice Ao58 x300001_2.length co58 : Value).ownBlock ∧ k_ ≠ gb299 ∧ k_ ≠ gb347) (.slice Ao27 t293.length co27) t293) := ⟨h7_⟩
              have n8_ : Aside0 (Kd.N (Kd.slice 5 (Kd.int .u8)) 22 w65 w.heap.size (fun k_ => some k_ ≠ (v325 : Value).ownBlock ∧ some k_ ≠ (v329 : Value).ownBlock ∧ some k_ ≠ (v332 : Value).ownBlock ∧ some k_ ≠ (v338 : Value).ownBlock ∧ some k_ ≠ (v345 : Value).ownBlock ∧ some k_ ≠ (.slice Ao27 t293.length co27 : Value).ownBlock ∧ some k_ ≠ (.slice Ao57 x300000_2.length co57 : Value).ownBlock ∧ some k_ ≠ (.slice Ao58 x300001_2.length co58 : Value).ownBlock ∧ k_ ≠ gb299 ∧ k_ ≠ gb347) (.slice Ao52 t296.length co52) t296) := ⟨h8_⟩
              have n9_ : Aside0 (Kd.R (Kd.int .u8) 5 w65 w.heap.size (fun k_ => some k_ ≠ (v329 : Value).ownBlock ∧ some k_ ≠ (v332 : Value).ownBlock ∧ some k_ ≠ (v338 : Value).ownBlock ∧ some k_ ≠ (.slice Ao58 x300001_2.length co58 : Value).ownBlock) (.slice Ao57 x300000_2.length co57) x300000_2) := ⟨h9_⟩
              have n10_ : Aside0 (Kd.R (Kd.int .u8) 5 w65 w.heap.size (fun k_ => some k_ ≠ (v329 : Value).ownBlock ∧ some k_ ≠ (v332 : Value).ownBlock ∧ some k_ ≠ (v338 : Value).ownBlock ∧ some k_ ≠ (.slice Ao57 x300000_2.length co57 : Value).ownBlock) (.slice Ao58 x300001_2.length co58) x300001_2) := ⟨h10_⟩
              have n11_ : Aside0 (w65.heap[gb299]? = some (.cells #[.slice Ao57 x300000_2.length co57, .slice Ao58 x300001_2.length co58] 24 (0, 0))) := ⟨h11_⟩
              have n12_ : Aside0 (w65.heap[gb347]? = some (.cells #[.slice none 0 0, .slice none 0 0] 24 (0, 0))) := ⟨h12_⟩
              have n13_ : Aside0 (w.heap.size ≤ gb347) := ⟨h13_⟩
              have n14_ : Aside0 (w.heap.size ≤ gb347) := ⟨h14_⟩
              have n15_ : Aside0 (gb299 ≠ gb347) := ⟨h15_⟩
              have n16_ : Aside0 (gb347 ≠ gb299) := ⟨h16_⟩
              have n17_ : Aside0 (Below w.heap.size w w65) := ⟨h17_⟩
              clear HO_0
              clear HO_1
              clear HO_300000
              clear HO_300001
              clear HO326
              clear BK299
              clear HB
              clear h0_ h1_ h2_ h3_ h4_ h5_ h6_ h7_ h8_ h9_ h10_ h11_ h12_ h13_ h14_ h15_ h16_ h17_
              have HO326 := n0_
              have HO330 := n1_
              have HO333 := n2_
              have HO336 := n3_
              have HO339 := n4_
              have HO342 := n5_
              have HO346 := n6_
              have HO_0 := n7_
              have HO_1 := n8_
              have HO_300000 := n9_
              have HO_300001 := n10_
              have BK299 := n11_
              have BK347 := n12_
              have GW347 := n13_
              have GE347 := n14_
              have NB299_347 := n15_
              have NB347_299 := n16_
              have HB := n17_
              clear n0_ n1_ n2_ n3_ n4_ n5_ n6_ n7_ n8_ n9_ n10_ n11_ n12_ n13_ n14_ n15_ n16_ n17_
              have hHeld : w65.cell? ⟨gb299, 0, none⟩ = some (.slice Ao57 x300000_2.length co57) ∧ w65.cell? ⟨gb299, 1, none⟩ = some (.slice Ao58 x300001_2.length co58) := hS_
              obtain ⟨Ao66, co66, eo66⟩ := Kd.V_slice HO336.out
              (first | subst eo66 | (injection eo66 with f1_ f2_ f3_; have f4_ := f1_.symm; have f5_ := f3_.symm; clear f1_ f2_ f3_; subst f4_; subst f5_))
              obtain ⟨Ao68, co68, eo68⟩ := Kd.R_slice HO339.out
              (first | subst eo68 | (injection eo68 with f1_ f2_ f3_; have f4_ := f1_.symm; have f5_ := f3_.symm; clear f1_ f2_ f3_; subst f4_; subst f5_))
              refine norm_ (a' := ?_) ?_ ?_
              rotate_left
              · simp only [putAll, Act.put, List.setIfInBounds_toArray, List.set_cons_zero, List.set_cons_succ]
                rfl
              refine one_ (i := 11) (N := none) #[true, true, true, true, true, true, true, true, true, true, true, true, false, false, false] rfl rfl (one_of HT_.out (by kernel_rfl)) (by decide) (fun K hK => ?_)
              have hs67 : w65.cell? ⟨gb347, 0, none⟩ = some (.slice none 0 0) := (blk_cell BK347.out 0).trans rfl
              have hfs67 := blk_frozen BK347.out 0
              have hns67_0 := NB299_347.out
              have hms67_0 := NB347_299.out
              have hs69 : w65.cell? ⟨gb347, 1, none⟩ = some (.slice none 0 0) := (blk_cell BK347.out 1).trans rfl
              have hfs69 := blk_frozen BK347.out 1
              have hns69_0 := NB299_347.out
              have hms69_0 := NB347_299.out
              refine skip_ (w1 := ?_) (by rfl) rfl ?_ ?_
              rotate_left
              · go_simp
                rfl
              refine hK.out _ _ ⟨((cell_far (p := ⟨gb347, _, none⟩) NB299_347.out _).trans (((cell_far (p := ⟨gb347, _, none⟩) NB299_347.out _).trans (hHeld.1)))), ((cell_far (p := ⟨gb347, _, none⟩) NB299_347.out _).trans (((cell_far (p := ⟨gb347, _, none⟩) NB299_347.out _).trans (hHeld.2))))⟩ (fun hHeld => ?_)
              clear hK K
              refine pure_ (i := 12) (N := some 16) (v := ?_) (a' := ?_) #[true, true, true, true, true, true, true, true, true, true, true, true, true, false, false] rfl rfl (any_of HT_.out (by kernel_rfl)) (fun _ _ _ h => h) (Or.inl ⟨by rfl, ?_⟩) ?_ ?_
              rotate_left
              · intro w'
                go_simp
                with_reducible rfl
              rotate_left
              · simp only [Act.put, List.setIfInBounds_toArray, List.set_cons_zero, List.set_cons_succ, i64_w, i32_w]
                rfl
              refine pure_ (i := 13) (N := some 17) (v := ?_) (a' := ?_) #[true, true, true, true, true, true, true, true, true, true, true, true, true, true, false] rfl rfl (any_of HT_.out (by kernel_rfl)) (fun _ _ _ h => h) (Or.inl ⟨by rfl, ?_⟩) ?_ ?_
              rotate_left
              · intro w'
                go_simp
                with_reducible rfl
              rotate_left
              · simp only [Act.put, List.setIfInBounds_toArray, List.set_cons_zero, List.set_cons_succ, i64_w, i32_w]
                rfl
              refine pure_ (i := 14) (N := some 18) (v := ?_) (a' := ?_) #[true, true, true, true, true, true, true, true, true, true, true, true, true, true, true] rfl rfl (any_of HT_.out (by kernel_rfl)) (fun _ _ _ h => h) (Or.inl ⟨by rfl, ?_⟩) ?_ ?_
              rotate_left
              · intro w'
                go_simp
                with_reducible rfl
              rotate_left
              · simp only [Act.put, List.setIfInBounds_toArray, List.set_cons_zero, List.set_cons_succ, i64_w, i32_w]
                rfl
              refine done_ (done_of HT_.out (by kernel_rfl)) ?_
              go_upto_region 19 with (fail)
              go_cut [104] (fun v104 wc => ∃ (kq : Nat) (x104_50 : Bool), v104 = .bool x104_50 ∧ Aside0 (customslaw34_JournalCrash.j2 kq t344 x104_50 t334 t337 = some true) ∧ Aside0 (kq ≤ k2) ∧ Aside0 (Kd.N (Kd.slice 5 (Kd.int .u8)) 22 wc w.heap.size (fun k_ => some k_ ≠ ((.slice Ao68 t337.length co68) : Value).ownBlock ∧ k_ ≠ gb347) v345 t344) ∧ Aside0 (Kd.V (Kd.int .u8) 5 wc w.heap.size (fun k_ => some k_ ≠ (v345 : Value).ownBlock ∧ some k_ ≠ ((.slice Ao68 t337.length co68) : Value).ownBlock ∧ k_ ≠ gb347) (.slice Ao66 t334.length co66) t334) ∧ Aside0 (Kd.R (Kd.int .u8) 5 wc w.heap.size (fun _ => True) (.slice Ao68 t337.length co68) t337) ∧ Aside0 (wc.heap[gb347]? = some (.cells #[(.slice Ao66 t334.length co66), (.slice Ao68 t337.length co68)] 24 (0, 0))) ∧ Aside0 (Below w.heap.size w wc))
              case first =>
                have H := HC51.out
                clear HC51
                by_cases c70 : t343 = true
                · subst c70
                  have H1 : (customslaw34_JournalCrash.j2 k2 t344 true t334 t337) = some true := by rw [if_pos rfl] at H; exact H
                  clear H
                  have H := H1
                  clear H1
                  exact absurd H (by cases k2 <;> simp [customslaw34_JournalCrash.j2])
                · replace c70 := Bool.eq_false_iff.mpr c70
                  subst c70
                  have H1 : (if (t344.length : Int) < (t293.length : Int) then (customslaw34_JournalCrash.j2 k2 t344 true t334 t337) else (if (t344.length : Int) > (y324.length : Int) then (customslaw34_JournalCrash.j2 k2 t344 true t334 t337) else (if 0 ≤ (t344.length : Int) then (if (t344.length : Int) ≤ (y324.length : Int) then ((customsref33_SameRecords.f k2 t344 (y324.take ((t344.length : Int) : Int).toNat)).bind fun t353 => (customslaw34_JournalCrash.j2 k2 t344 (!t353) t334 t337)) else (none)) else (none)))) = some true := by rw [if_neg (show ¬ (false = true) by decide)] at H; exact H
                  clear H
                  have H := H1
                  clear H1
                  by_cases c71 : (t344.length : Int) < (t293.length : Int)
                  · rw [if_pos c71] at H
                    have c71b0 : decide ((t344.length : Int) < (t293.length : Int)) = true := decide_eq_true c71
                    have c71b1 : decide (t344.length < t293.length) = true := decide_eq_true (Int.ofNat_lt.mp c71)
                    clear c71
                    (first | rw [c71b0] | (simp only [i64_w, i32_w]; rw [c71b0]) | skip)
                    exact absurd H (by cases k2 <;> simp [customslaw34_JournalCrash.j2])
                  · rw [if_neg c71] at H
                    have c71b0 : decide ((t344.length : Int) < (t293.length : Int)) = false := decide_eq_false c71
                    have c71b1 : decide (t344.length < t293.length) = false := decide_eq_false (fun h => c71 (Int.ofNat_lt.mpr h))
                    clear c71
                    (first | rw [c71b0] | (simp only [i64_w, i32_w]; rw [c71b0]) | skip)
                    by_cases c72 : (t344.length : Int) > (y324.length : Int)
                    · rw [if_pos c72] at H
                      have c72b0 : decide ((y324.length : Int) < (t344.length : Int)) = true := decide_eq_true c72
                      have c72b1 : decide (y324.length < t344.length) = true := decide_eq_true (Int.ofNat_lt.mp c72)
                      clear c72
                      exact absurd H (by cases k2 <;> simp [customslaw34_JournalCrash.j2])
                    · rw [if_neg c72] at H
                      have c72b0 : decide ((y324.length : Int) < (t344.length : Int)) = false := decide_eq_false c72
                      have c72b1 : decide (y324.length < t344.length) = false := decide_eq_false (fun h => c72 (Int.ofNat_lt.mpr h))
                      clear c72
                      have c73 : 0 ≤ (t344.length : Int) := by
                        refine Classical.byContradiction fun c73 => ?_
                        rw [if_neg c73] at H
                        exact absurd H (by simp)
                      rw [if_pos c73] at H
                      have c73b0 := eq_true c73
                      have c73b1 : decide (0 ≤ (t344.length : Int)) = true := decide_eq_true c73
                      clear c73
                      have c74 : (t344.length : Int) ≤ (y324.length : Int) := by
                        refine Classical.byContradiction fun c74 => ?_
                        rw [if_neg c74] at H
                        exact absurd H (by simp)
                      rw [if_pos c74] at H
                      have c74b0 := eq_true c74
                      have c74b1 : decide ((t344.length : Int) ≤ (y324.length : Int)) = true := decide_eq_true c74
                      clear c74
                      obtain ⟨y348, hy348⟩ : ∃ y_ : List (List Int), y_ = (y324.take ((t344.length : Int) : Int).toNat) := ⟨_, rfl⟩
                      replace H : ((customsref33_SameRecords.f k2 t344 y348).bind fun t353 => (customslaw34_JournalCrash.j2 k2 t344 (!t353) t334 t337)) = some true := by first | (rw [hy348]; with_reducible exact H) | (have H2_ := (Option.bind_some _ _).symm.trans H; rw [hy348]; with_reducible exact H2_) | (have H2_ := (Option.bind_some _ _).symm.trans H; with_reducible exact H2_) | with_reducible exact H | (rw [hy348]; exact H) | exact H
                      have Ny348 := Aside0.mk hy348
                      clear hy348
                      replace H := Option.bind_eq_some_iff.mp H
                      obtain ⟨t353, A750, H⟩ := H
                      replace H : (customslaw34_JournalCrash.j2 k2 t344 (!t353) t334 t337) = some true := H
                      have A75 := Aside0.mk A750
                      clear A750
                      have H' := Aside0.mk H
                      clear H
                      obtain ⟨Ao76, co76, eo76⟩ := Kd.N_slice HO346.out
                      subst eo76
                      obtain ⟨Ao77, co77, eo77⟩ := Kd.N_slice HO326.out
                      subst eo77
                      have q78 : ((t344.length : Int) : Int) ≤ ((y324.length : Int) : Int) := of_decide_eq_true (by first | (with_reducible assumption) | assumption)
                      obtain ⟨i078, hi078, _, hsz78, _⟩ := info_parts info22
                      have hroom78 : y324.length ≤ co77 := (Kd.N_reads' HO326.out).2.1
                      have hC78 : Kd.F (Kd.slice 5 (Kd.int .u8)) _ _ Ao77 y324.length y324 := (Kd.V_at (base := w.heap.size) (Kd.N_V HO326.out)).2.2
                      have hcut78 := cut_to (P := Try.prog) 34 22 .i64 Try.underlying34 hi078 Ao77 y324.length co77 (t344.length : Int) (of_decide_eq_true (by first | (with_reducible assumption) | assumption)) q78 hroom78
                      have hr78 := Kd.F_take (m := ((t344.length : Int) : Int).toNat) hC78 (by omega)
                      have hy78 : y348.length = ((t344.length : Int) : Int).toNat := (by rw [Ny348.out, List.length_take]; omega)
                      rw [← Ny348.out] at hr78
                      rw [← hy78] at hcut78
                      have HO352 := Aside0.mk (show Kd.V (Kd.slice 5 (Kd.int .u8)) 22 _ w.heap.size _ (.slice Ao77 y348.length co77) y348 from Kd.V_mk (by omega) hr78)
                      have HC352 := Aside0.mk (show y348.length ≤ co77 from by omega)
                      clear hr78 hC78 hroom78 hi078 hsz78
                      have KY78 := Aside0.mk hy78
                      clear hy78
                      replace q78 := eq_true q78
                      go_wp2_with (first | (go_at_call 40; (with_reducible refine (customsref33_SameRecords.calls k2 _ _ t344 _ _ y348 t353 _ ?side1 ?side2 ?side3 ?side4 A75.out).mono ?_); (case side1 => refine (Kd.N_reads' (e := 22) (base := w.heap.size) (ok := fun k_ => (some k_ ≠ (.slice Ao77 y324.length co77 : Value).ownBlock ∧ (some k_ ≠ (v329 : Value).ownBlock ∧ (some k_ ≠ (v332 : Value).ownBlock ∧ (some k_ ≠ (.slice Ao68 t337.length co68 : Value).ownBlock ∧ (some k_ ≠ (.slice Ao27 t293.length co27 : Value).ownBlock ∧ (some k_ ≠ (.slice Ao52 t296.length co52 : Value).ownBlock ∧ (some k_ ≠ (.slice Ao57 x300000_2.length co57 : Value).ownBlock ∧ (some k_ ≠ (.slice Ao58 x300001_2.length co58 : Value).ownBlock ∧ (k_ ≠ gb299 ∧ k_ ≠ gb347)))))))))) (n := t344.length) (c := co76) ?_).2.2; exact (by (with_reducible repeat (first | apply Kd.N_alloc | apply Kd.N_drewN | apply Kd.N_drew)); exact (Kd.N_mono (Kd.N_far (p := ⟨gb347, 1, none⟩) (Kd.N_far (p := ⟨gb347, 0, none⟩) (Kd.N_mono HO346.out (fun k_ hk => (⟨hk, hk.2.2.2.2.2.2.2.2.2⟩ : _ ∧ k_ ≠ gb347))) (fun _ hk => hk.2) (.slice Ao66 t334.length co66)) (fun _ hk => hk.2) (.slice Ao68 t337.length co68)) (fun _ h_ => h_.1)))); (case side2 => exact (Kd.N_reads' HO346.out).2.1); (case side3 => refine (Kd.V_reads' (e := 22) (base := w.heap.size) (ok := fun k_ => (some k_ ≠ (v329 : Value).ownBlock ∧ (some k_ ≠ (v332 : Value).ownBlock ∧ (some k_ ≠ (.slice Ao68 t337.length co68 : Value).ownBlock ∧ (some k_ ≠ (.slice Ao76 t344.length co76 : Value).ownBlock ∧ (some k_ ≠ (.slice Ao57 x300000_2.length co57 : Value).ownBlock ∧ (some k_ ≠ (.slice Ao58 x300001_2.length co58 : Value).ownBlock ∧ (k_ ≠ gb299 ∧ k_ ≠ gb347)))))))) (n := y348.length) (c := co77) ?_).2.2; exact (by (with_reducible repeat (first | apply Kd.V_alloc | apply Kd.V_drewN | apply Kd.V_drew)); exact (Kd.V_mono (Kd.V_far (p := ⟨gb347, 1, none⟩) (Kd.V_far (p := ⟨gb347, 0, none⟩) (Kd.V_mono HO352.out (fun k_ hk => (⟨hk, hk.2.2.2.2.2.2.2⟩ : _ ∧ k_ ≠ gb347))) (fun _ hk => hk.2) (.slice Ao66 t334.length co66)) (fun _ hk => hk.2) (.slice Ao68 t337.length co68)) (fun _ h_ => h_.1)))); (case side4 => exact (Kd.V_reads' HO352.out).2.1); rintro e w' ⟨rfl, ⟨nd, rfl⟩⟩))
                      go_meet
                      case rel => exact ⟨_, (!t353), (by first | rfl | (simp; done) | (simp [*]; done)), H', ⟨by have := HK1.out; have := HK2.out; first | omega | exact Nat.le_refl _⟩, ⟨by (with_reducible repeat (first | apply Kd.N_alloc | apply Kd.N_drewN | apply Kd.N_drew)); exact Kd.N_mono (Kd.N_far (p := ⟨gb347, 1, none⟩) (Kd.N_far (p := ⟨gb347, 0, none⟩) (Kd.N_mono HO346.out (fun k_ hk => (⟨hk, hk.2.2.2.2.2.2.2.2.2⟩ : _ ∧ k_ ≠ gb347))) (fun _ hk => hk.2) (.slice Ao66 t334.length co66)) (fun _ hk => hk.2) (.slice Ao68 t337.length co68)) (fun _ hk => ⟨hk.1.2.2.2.1, hk.1.2.2.2.2.2.2.2.2.2⟩)⟩, ⟨by (with_reducible repeat (first | apply Kd.V_alloc | apply Kd.V_drewN | apply Kd.V_drew)); exact Kd.V_mono (Kd.V_far (p := ⟨gb347, 1, none⟩) (Kd.V_far (p := ⟨gb347, 0, none⟩) (Kd.V_mono HO336.out (fun k_ hk => (⟨hk, hk.2.2.2.2.2.2.2.2.2.2⟩ : _ ∧ k_ ≠ gb347))) (fun _ hk => hk.2) (.slice Ao66 t334.length co66)) (fun _ hk => hk.2) (.slice Ao68 t337.length co68)) (fun _ hk => ⟨hk.1.2.2.2.2.1, ⟨hk.1.2.2.2.1, hk.1.2.2.2.2.2.2.2.2.2.2⟩⟩)⟩, ⟨by (with_reducible repeat (first | apply Kd.R_alloc | apply Kd.R_drewN | apply Kd.R_drew)); exact Kd.R_mono (Kd.R_far (p := ⟨gb347, 1, none⟩) (Kd.R_far (p := ⟨gb347, 0, none⟩) (Kd.R_types HO339.out BK347.out (by decide)) (fun _ hk => hk.2) (.slice Ao66 t334.length co66)) (fun _ hk => hk.2) (.slice Ao68 t337.length co68)) (fun _ hk => trivial)⟩, ⟨by (with_reducible repeat (first | refine blk_drewN ?_ _ | refine blk_drew ?_ | refine blk_alloc ?_ _)); refine blk_put (cs := #[.slice Ao66 t334.length co66, .slice none 0 0]) ?_ 1 _ rfl; (with_reducible repeat (first | refine blk_drewN ?_ _ | refine blk_drew ?_ | refine blk_alloc ?_ _)); refine blk_put (cs := #[.slice none 0 0, .slice none 0 0]) ?_ 0 _ rfl; (with_reducible repeat (first | refine blk_drewN ?_ _ | refine blk_drew ?_ | refine blk_alloc ?_ _)); exact BK347.out⟩, ⟨by repeat (first | (with_reducible first | exact HB.out | apply below_alloc | apply pw_below_drewN | apply below_drew1 | refine below_set ?_ GE299.out | refine below_set ?_ GE347.out) | exact HB.out)⟩⟩
              case rest =>
                clear HC51
                try clear c2
                try clear p2
                try clear c3
                try clear c7
                try clear q7
                try clear c21
                try clear c23
                try clear c38
                try clear c70
                try clear c71
                try clear c71b0
                try clear c71b1
                try clear c72
                try clear c72b0
                try clear c72b1
                try clear c73
                try clear c73b0
                try clear c73b1
                try clear c74
                try clear c74b0
                try clear c74b1
                try clear q78
                try clear q78
                obtain ⟨kq, x104_50, rfl, HA, HJ50, HO_18, HO_348000, HO_348001, BK347, HB⟩ := hcut
                cases kq with
                | zero => exact absurd HA.out (by simp [customslaw34_JournalCrash.j2])
                | succ kj50 =>
                  have H := HA.out
                  clear HA
                  simp only [customslaw34_JournalCrash.j2] at H
                  have c79 : ¬ (x104_50 = true) := by
                    intro c79
                    rw [if_pos c79] at H
                    exact absurd (Option.some.inj H) (by simp)
                  replace c79 := Bool.eq_false_iff.mpr c79
                  subst c79
                  have H1 : ((journal_Append.f kj50 t334 t337 (([109, 111, 114, 101] : List Int))).bind fun bt357 => ((journal_Open.f kj50 bt357.1 bt357.2.1).bind fun bt365 => (if bt357.2.2 = 0 then ((some (([] : List (List Int)) : List (List Int))).bind fun y379 => (if y379.length + t344.length < 5864062014805 then ((some (y379 ++ t344 : List (List Int))).bind fun y382 => (if y382.length < 5864062014805 then ((customsref33_SameRecords.f kj50 bt365.2.2.2.2 (y382 ++ [(([109, 111, 114, 101] : List Int))])).bind fun t391 => (if t391 = true then ((customslaw34_awake.f kj50).bind fun t392 => (some t392)) else (some false))) else (none))) else (none))) else (some false)))) = some true := by rw [if_neg (show ¬ (false = true) by decide)] at H; exact H
                  clear H
                  have H := H1
                  clear H1
                  obtain ⟨y354, hy354⟩ : ∃ y_ : List Int, y_ = (([109, 111, 114, 101] : List Int)) := ⟨_, rfl⟩
                  replace H : ((journal_Append.f kj50 t334 t337 y354).bind fun bt357 => ((journal_Open.f kj50 bt357.1 bt357.2.1).bind fun bt365 => (if bt357.2.2 = 0 then ((some (([] : List (List Int)) : List (List Int))).bind fun y379 => (if y379.length + t344.length < 5864062014805 then ((some (y379 ++ t344 : List (List Int))).bind fun y382 => (if y382.length < 5864062014805 then ((customsref33_SameRecords.f kj50 bt365.2.2.2.2 (y382 ++ [(([109, 111, 114, 101] : List Int))])).bind fun t391 => (if t391 = true then ((customslaw34_awake.f kj50).bind fun t392 => (some t392)) else (some false))) else (none))) else (none))) else (some false)))) = some true := by first | (rw [hy354]; with_reducible exact H) | (have H2_ := (Option.bind_some _ _).symm.trans H; rw [hy354]; with_reducible exact H2_) | (have H2_ := (Option.bind_some _ _).symm.trans H; with_reducible exact H2_) | with_reducible exact H | (rw [hy354]; exact H) | exact H
                  have Ny354 := Aside0.mk hy354
                  clear hy354
                  replace H := Option.bind_eq_some_iff.mp H
                  obtain ⟨⟨t357, t360, t363⟩, A800, H⟩ := H
                  replace H : ((journal_Open.f kj50 t357 t360).bind fun bt365 => (if t363 = 0 then ((some (([] : List (List Int)) : List (List Int))).bind fun y379 => (if y379.length + t344.length < 5864062014805 then ((some (y379 ++ t344 : List (List Int))).bind fun y382 => (if y382.length < 5864062014805 then ((customsref33_SameRecords.f kj50 bt365.2.2.2.2 (y382 ++ [(([109, 111, 114, 101] : List Int))])).bind fun t391 => (if t391 = true then ((customslaw34_awake.f kj50).bind fun t392 => (some t392)) else (some false))) else (none))) else (none))) else (some false))) = some true := H
                  have A80 := Aside0.mk A800
                  clear A800
                  replace H := Option.bind_eq_some_iff.mp H
                  obtain ⟨⟨t365, t368, t371, t374, t375⟩, A810, H⟩ := H
                  replace H : (if t363 = 0 then ((some (([] : List (List Int)) : List (List Int))).bind fun y379 => (if y379.length + t344.length < 5864062014805 then ((some (y379 ++ t344 : List (List Int))).bind fun y382 => (if y382.length < 5864062014805 then ((customsref33_SameRecords.f kj50 t375 (y382 ++ [(([109, 111, 114, 101] : List Int))])).bind fun t391 => (if t391 = true then ((customslaw34_awake.f kj50).bind fun t392 => (some t392)) else (some false))) else (none))) else (none))) else (some false)) = some true := H
                  have A81 := Aside0.mk A810
                  clear A810
                  have c82 : t363 = 0 := by
                    refine Classical.byContradiction fun c82 => ?_
                    rw [if_neg c82] at H
                    exact absurd (Option.some.inj H) (by simp)
                  rw [if_pos c82] at H
                  have c82b0 : (t363 == 0) = true := beq_iff_eq.mpr c82
                  have c82b1 : (t363 != 0) = false := bne_eq_false_iff_eq.mpr c82
                  clear c82
                  obtain ⟨y379, hy379⟩ : ∃ y_ : List (List Int), y_ = (([] : List (List Int))) := ⟨_, rfl⟩
                  replace H : (if y379.length + t344.length < 5864062014805 then ((some (y379 ++ t344 : List (List Int))).bind fun y382 => (if y382.length < 5864062014805 then ((customsref33_SameRecords.f kj50 t375 (y382 ++ [(([109, 111, 114, 101] : List Int))])).bind fun t391 => (if t391 = true then ((customslaw34_awake.f kj50).bind fun t392 => (some t392)) else (some false))) else (none))) else (none)) = some true := by first | (rw [hy379]; with_reducible exact H) | (have H2_ := (Option.bind_some _ _).symm.trans H; rw [hy379]; with_reducible exact H2_) | (have H2_ := (Option.bind_some _ _).symm.trans H; with_reducible exact H2_) | with_reducible exact H | (rw [hy379]; exact H) | exact H
                  have Ny379 := Aside0.mk hy379
                  clear hy379
                  have c83 : y379.length + t344.length < 5864062014805 := by
                    refine Classical.byContradiction fun c83 => ?_
                    rw [if_neg c83] at H
                    exact absurd H (by simp)
                  rw [if_pos c83] at H
                  have LMc83 := Aside0.mk c83
                  clear c83
                  obtain ⟨y382, hy382⟩ : ∃ y_ : List (List Int), y_ = (y379 ++ t344) := ⟨_, rfl⟩
                  replace H : (if y382.length < 5864062014805 then ((customsref33_SameRecords.f kj50 t375 (y382 ++ [(([109, 111, 114, 101] : List Int))])).bind fun t391 => (if t391 = true then ((customslaw34_awake.f kj50).bind fun t392 => (some t392)) else (some false))) else (none)) = some true := by first | (rw [hy382]; with_reducible exact H) | (have H2_ := (Option.bind_some _ _).symm.trans H; rw [hy382]; with_reducible exact H2_) | (have H2_ := (Option.bind_some _ _).symm.trans H; with_reducible exact H2_) | with_reducible exact H | (rw [hy382]; exact H) | exact H
                  have Ny382 := Aside0.mk hy382
                  clear hy382
                  obtain ⟨y385, hy385⟩ : ∃ y_ : List Int, y_ = (([109, 111, 114, 101] : List Int)) := ⟨_, rfl⟩
                  replace H : (if y382.length < 5864062014805 then ((customsref33_SameRecords.f kj50 t375 (y382 ++ [y385])).bind fun t391 => (if t391 = true then ((customslaw34_awake.f kj50).bind fun t392 => (some t392)) else (some false))) else (none)) = some true := by first | (rw [hy385]; with_reducible exact H) | (have H2_ := (Option.bind_some _ _).symm.trans H; rw [hy385]; with_reducible exact H2_) | (have H2_ := (Option.bind_some _ _).symm.trans H; with_reducible exact H2_) | with_reducible exact H | (rw [hy385]; exact H) | exact H
                  have Ny385 := Aside0.mk hy385
                  clear hy385
                  have c84 : y382.length < 5864062014805 := by
                    refine Classical.byContradiction fun c84 => ?_
                    rw [if_neg c84] at H
                    exact absurd H (by simp)
                  rw [if_pos c84] at H
                  have LMc84 := Aside0.mk c84
                  clear c84
                  obtain ⟨y388, hy388⟩ : ∃ y_ : List (List Int), y_ = (y382 ++ [y385]) := ⟨_, rfl⟩
                  replace H : ((customsref33_SameRecords.f kj50 t375 y388).bind fun t391 => (if t391 = true then ((customslaw34_awake.f kj50).bind fun t392 => (some t392)) else (some false))) = some true := by first | (rw [hy388]; with_reducible exact H) | (have H2_ := (Option.bind_some _ _).symm.trans H; rw [hy388]; with_reducible exact H2_) | (have H2_ := (Option.bind_some _ _).symm.trans H; with_reducible exact H2_) | with_reducible exact H | (rw [hy388]; exact H) | exact H
                  have Ny388 := Aside0.mk hy388
                  clear hy388
                  replace H := Option.bind_eq_some_iff.mp H
                  obtain ⟨t391, A850, H⟩ := H
                  replace H : (if t391 = true then ((customslaw34_awake.f kj50).bind fun t392 => (some t392)) else (some false)) = some true := H
                  have A85 := Aside0.mk A850
                  clear A850
                  have c86 : t391 = true := by
                    refine Classical.byContradiction fun c86 => ?_
                    rw [if_neg c86] at H
                    exact absurd (Option.some.inj H) (by simp)
                  subst c86
                  have H1 : ((customslaw34_awake.f kj50).bind fun t392 => (some t392)) = some true := by rw [if_pos rfl] at H; exact H
                  clear H
                  have H := H1
                  clear H1
                  replace H := Option.bind_eq_some_iff.mp H
                  obtain ⟨t392, A870, H⟩ := H
                  replace H : (some t392) = some true := H
                  have A87 := Aside0.mk A870
                  clear A870
                  have HTR := Aside0.mk (Option.some.inj H)
                  clear H
                  have hcz88_0 : wc.cell? ⟨gb347, 0, none⟩ = some (.slice Ao66 t334.length co66) := (blk_cell BK347.out 0).trans rfl
                  have hcz88_1 : wc.cell? ⟨gb347, 1, none⟩ = some (.slice Ao68 t337.length co68) := (blk_cell BK347.out 1).trans rfl
                  have hfz88_0 := blk_frozen BK347.out 0
                  have hfz88_1 := blk_frozen BK347.out 1
                  go_wp2_with (first | ((with_reducible refine gate_dst (N := 108) rfl ?_); (try (refine gate_guard (by rfl) ?_; dsimp only)); refine Go.Proofs.Ythnlepmfjhhgfaa.XWords.V_const _ 5 ?hg (N := 108) ?hd (xs := ([109, 111, 114, 101] : List Int)) 22 (.tmp 107) ?hop Try.underlying22 Try.underlying5 (cs := #[.int .u8 109, .int .u8 111, .int .u8 114, .int .u8 101]) ?hcs (n := 4) ?hs ?hn (by simp) (Below.refl _ _) (Nat.le_refl _) ?_; (case hd => rfl); (case hg => rfl); (case hop => rfl); (case hcs => rfl); (case hs => rfl); (case hn => rfl); intro v355 w89 ho90 hb hg_ hnew_; clear hg_ hnew_; (first | rw [← Ny354.out] at ho90 | (simp only [Int.reduceToNat] at ho90; rw [← Ny354.out] at ho90)); have n0_ := Aside0.mk (Kd.N_below (by exact pN HO_18.out) hb); have n1_ := Aside0.mk (Kd.V_below (by exact pV HO_348000.out) hb); have n2_ := Aside0.mk (Kd.R_below (by exact pR HO_348001.out) hb); have n3_ := Aside0.mk (Kd.V_lower (Kd.V_mono (ok' := fun k_ => some k_ ≠ (v345 : Value).ownBlock ∧ some k_ ≠ (.slice Ao68 t337.length co68 : Value).ownBlock) ho90 (fun k_ hk_ => ⟨(Kd.fresh' (Kd.N_lt (by exact pN HO_18.out)) k_ hk_), (Kd.fresh' (Kd.R_lt (by exact pR HO_348001.out)) k_ hk_)⟩)) (below_size (by exact pB HB.out))); have n4_ := Aside0.mk (below_step (by exact pB HB.out) hb); clear HO_18; clear HO_348000; clear HO_348001; clear HB; have HO_18 := n0_; have HO_348000 := n1_; have HO_348001 := n2_; have HO356 := n3_; have HB := n4_; clear n0_ n1_ n2_ n3_ n4_; clear hb ho90; obtain ⟨Ao91, co91, eo91⟩ := Kd.V_slice HO356.out; subst eo91) | ((with_reducible refine gate_callee (f := 36) rfl ?_); refine goesL_ (some 109) rfl rfl Try.func36 (by kernel_rfl) rfl #[.agg #[.slice Ao66 t334.length co66, .slice Ao68 t337.length co68], .slice Ao91 y354.length co91] rfl (by (try simp only [List.map_toArray, List.map_cons, List.map_nil]); first | done | rfl | (simp only [List.length_drop, List.length_take]; rfl)) ?_; (with_reducible refine (journal_Append.calls kj50 _ _ t334 _ _ t337 _ _ y354 t357 t360 t363 _ ?side1 ?side2 ?side3 ?side4 ?side5 ?side6 A80.out).mono ?_); (case side1 => exact pC (Kd.V_reads' HO_348000.out).2.2); (case side2 => exact (Kd.V_reads' HO_348000.out).2.1); (case side3 => exact pC (Kd.R_reads' HO_348001.out).2.2); (case side4 => exact (Kd.R_reads' HO_348001.out).2.1); (case side5 => exact pC (Kd.V_reads' HO356.out).2.2); (case side6 => exact (Kd.V_reads' HO356.out).2.1); rintro e w92 ⟨v358, v361, rfl, ho0, ho1, hb⟩; refine ⟨_, rfl, ?_⟩; have n0_ := Aside0.mk (Kd.N_mono (Kd.N_told (Kd.N_told (Kd.N_old (by exact pN HO_18.out) hb) (Kd.R_base ho0)) (Kd.R_base ho1)) (fun _ h_ => h_.1)); have n1_ := Aside0.mk (Kd.V_mono (Kd.V_told (Kd.V_told (Kd.V_old (by exact pV HO_348000.out) hb) (Kd.R_base ho0)) (Kd.R_base ho1)) (fun _ h_ => h_.1)); have n2_ := Aside0.mk (Kd.R_mono (Kd.R_told (Kd.R_told (Kd.R_old (by exact pR HO_348001.out) hb) (Kd.R_base ho0)) (Kd.R_base ho1)) (fun _ h_ => h_.1)); have n3_ := Aside0.mk (Kd.V_mono (Kd.V_told (Kd.V_told (Kd.V_old (by exact pV HO356.out) hb) (Kd.R_base ho0)) (Kd.R_base ho1)) (fun _ h_ => h_.1)); have n4_ := Aside0.mk (Kd.R_lower (Kd.R_new' ho0 (Kd.R_lt (by exact pR HO_348001.out))) (below_size (by exact pB HB.out))); have n5_ := Aside0.mk (Kd.R_lower (Kd.R_new' ho1 (Kd.R_lt (by exact pR HO_348001.out))) (below_size (by exact pB HB.out))); have n6_ := Aside0.mk (below_step (by exact pB HB.out) hb); clear HO_18; clear HO_348000; clear HO_348001; clear HO356; clear HB; have HO_18 := n0_; have HO_348000 := n1_; have HO_348001 := n2_; have HO356 := n3_; have HO359 := n4_; have HO362 := n5_; have HB := n6_; clear n0_ n1_ n2_ n3_ n4_ n5_ n6_; (try clear hb); (try clear hb2); (try clear hk); (try clear hi); (try clear ho0); (try clear ho1)) | ((with_reducible refine gate_dst (N := 19) rfl ?_); (try (refine gate_guard (by rfl) ?_; dsimp only)); refine box_event ?hg (N := 19) ?hd (cs := #[.slice none 0 0, .slice none 0 0]) (t := 24) ?hr ?_; (case hd => rfl); (case hg => rfl); (case hr => first | (go_simp; done) | (go_simp; rfl)); intro gb364 hg w93 hbox hb; have n0_ := Aside0.mk (Kd.N_below (Kd.N_elderB (by exact pN HO_18.out) gb364 (Nat.le_of_eq hg.symm)) hb); have n1_ := Aside0.mk (Kd.R_below (by exact pR HO359.out) hb); have n2_ := Aside0.mk (Kd.R_below (by exact pR HO362.out) hb); have n3_ := Aside0.mk (below_step (by exact pB HB.out) hb); have n4_ := Aside0.mk (hbox); have n5_ := Aside0.mk ((by rw [hg]; exact (below_size (by exact pB HB.out)) : w.heap.size ≤ gb364)); have n6_ := Aside0.mk ((by rw [hg]; exact (below_size (by exact pB HB.out)) : w.heap.size ≤ gb364)); clear HO_18; clear HO359; clear HO362; clear HB; have HO_18 := n0_; have HO359 := n1_; have HO362 := n2_; have HB := n3_; have BK364 := n4_; have GW364 := n5_; have GE364 := n6_; clear n0_ n1_ n2_ n3_ n4_ n5_ n6_; clear hb hbox hg; obtain ⟨Ao94, co94, eo94⟩ := Kd.R_slice HO359.out; subst eo94; have hcz95_0 : w93.cell? ⟨gb364, 0, none⟩ = some (.slice none 0 0) := (blk_cell BK364.out 0).trans rfl; have hcz95_1 : w93.cell? ⟨gb364, 1, none⟩ = some (.slice none 0 0) := (blk_cell BK364.out 1).trans rfl; have hfz95_0 := blk_frozen BK364.out 0; have hfz95_1 := blk_frozen BK364.out 1; obtain ⟨Ao96, co96, eo96⟩ := Kd.R_slice HO362.out; subst eo96) | ((with_reducible refine gate_callee (f := 38) rfl ?_); refine goesL_ (some 114) rfl rfl Try.func38 (by kernel_rfl) rfl #[.agg #[.slice Ao94 t357.length co94, .slice Ao96 t360.length co96]] rfl (by (try simp only [List.map_toArray, List.map_cons, List.map_nil]); first | done | rfl | (simp only [List.length_drop, List.length_take]; rfl)) ?_; (with_reducible refine (journal_Open.calls kj50 _ _ t357 _ _ t360 t365 t368 t371 t374 t375 _ ?side1 ?side2 ?side3 ?side4 A81.out).mono ?_); (case side1 => refine (Kd.R_reads' (e := 5) (base := w.heap.size) (ok := fun k_ => (some k_ ≠ (.slice Ao96 t360.length co96 : Value).ownBlock ∧ some k_ ≠ (.slice Ao68 t337.length co68 : Value).ownBlock)) (n := t357.length) (c := co94) ?_).2.2; exact (by (with_reducible repeat (first | apply Kd.R_alloc | apply Kd.R_drewN | apply Kd.R_drew)); exact (Kd.R_mono (Kd.R_far (p := ⟨gb364, 1, none⟩) (Kd.R_far (p := ⟨gb364, 0, none⟩) (Kd.R_types HO359.out BK364.out (by decide)) (fun _ hk => hk.2) (.slice Ao94 t357.length co94)) (fun _ hk => hk.2) (.slice Ao96 t360.length co96)) (fun _ h_ => h_.1)))); (case side2 => exact (Kd.R_reads' HO359.out).2.1); (case side3 => refine (Kd.R_reads' (e := 5) (base := w.heap.size) (ok := fun k_ => (some k_ ≠ (.slice Ao94 t357.length co94 : Value).ownBlock ∧ some k_ ≠ (.slice Ao68 t337.length co68 : Value).ownBlock)) (n := t360.length) (c := co96) ?_).2.2; exact (by (with_reducible repeat (first | apply Kd.R_alloc | apply Kd.R_drewN | apply Kd.R_drew)); exact (Kd.R_mono (Kd.R_far (p := ⟨gb364, 1, none⟩) (Kd.R_far (p := ⟨gb364, 0, none⟩) (Kd.R_types HO362.out BK364.out (by decide)) (fun _ hk => hk.2) (.slice Ao94 t357.length co94)) (fun _ hk => hk.2) (.slice Ao96 t360.length co96)) (fun _ h_ => h_.1)))); (case side4 => exact (Kd.R_reads' HO362.out).2.1); rintro e w97 ⟨v366, v369, v372, v376, rfl, ho0, ho1, ho2, ho3, hb⟩; refine ⟨_, rfl, ?_⟩; have n0_ := Aside0.mk (Kd.N_mono (Kd.N_told (Kd.N_told (Kd.N_old (by (with_reducible repeat (first | apply Kd.N_alloc | apply Kd.N_drewN | apply Kd.N_drew)); exact (Kd.N_mono (Kd.N_far (p := ⟨gb364, 1, none⟩) (Kd.N_far (p := ⟨gb364, 0, none⟩) (Kd.N_mono HO_18.out (fun k_ hk => (⟨hk, hk.2⟩ : _ ∧ k_ ≠ gb364))) (fun _ hk => hk.2) (.slice Ao94 t357.length co94)) (fun _ hk => hk.2) (.slice Ao96 t360.length co96)) (fun _ h_ => h_.1))) hb) (Kd.R_base ho1)) (Kd.N_base ho3)) (fun _ h_ => h_.1)); have n1_ := Aside0.mk (Kd.R_elder' (by (with_reducible repeat (first | apply Kd.R_alloc | apply Kd.R_drewN | apply Kd.R_drew)); exact (Kd.R_mono (Kd.R_far (p := ⟨gb364, 1, none⟩) (Kd.R_far (p := ⟨gb364, 0, none⟩) (Kd.R_types HO359.out BK364.out (by decide)) (fun _ hk => hk.2) (.slice Ao94 t357.length co94)) (fun _ hk => hk.2) (.slice Ao96 t360.length co96)) (fun _ h_ => h_.1))) (Kd.R_base ho1) hb); have n2_ := Aside0.mk (Kd.R_elder' (by (with_reducible repeat (first | apply Kd.R_alloc | apply Kd.R_drewN | apply Kd.R_drew)); exact (Kd.R_mono (Kd.R_far (p := ⟨gb364, 1, none⟩) (Kd.R_far (p := ⟨gb364, 0, none⟩) (Kd.R_types HO362.out BK364.out (by decide)) (fun _ hk => hk.2) (.slice Ao94 t357.length co94)) (fun _ hk => hk.2) (.slice Ao96 t360.length co96)) (fun _ h_ => h_.1))) (Kd.R_base ho1) hb); have n3_ := Aside0.mk (Kd.V_lower (Kd.V_mono (ok' := fun k_ => some k_ ≠ (v369 : Value).ownBlock ∧ some k_ ≠ (v376 : Value).ownBlock ∧ some k_ ≠ (v345 : Value).ownBlock ∧ some k_ ≠ (.slice Ao94 t357.length co94 : Value).ownBlock ∧ some k_ ≠ (.slice Ao96 t360.length co96 : Value).ownBlock ∧ k_ ≠ gb364) ho0 (fun k_ hk_ => ⟨hk_.2.1, hk_.2.2, (Kd.fresh' (Kd.N_lt (by (with_reducible repeat (first | apply Kd.N_alloc | apply Kd.N_drewN | apply Kd.N_drew)); exact (Kd.N_mono (Kd.N_far (p := ⟨gb364, 1, none⟩) (Kd.N_far (p := ⟨gb364, 0, none⟩) (Kd.N_mono HO_18.out (fun k_ hk => (⟨hk, hk.2⟩ : _ ∧ k_ ≠ gb364))) (fun _ hk => hk.2) (.slice Ao94 t357.length co94)) (fun _ hk => hk.2) (.slice Ao96 t360.length co96)) (fun _ h_ => h_.1)))) k_ hk_.1), (Kd.fresh' (Kd.R_lt (by (with_reducible repeat (first | apply Kd.R_alloc | apply Kd.R_drewN | apply Kd.R_drew)); exact (Kd.R_mono (Kd.R_far (p := ⟨gb364, 1, none⟩) (Kd.R_far (p := ⟨gb364, 0, none⟩) (Kd.R_types HO359.out BK364.out (by decide)) (fun _ hk => hk.2) (.slice Ao94 t357.length co94)) (fun _ hk => hk.2) (.slice Ao96 t360.length co96)) (fun _ h_ => h_.1)))) k_ hk_.1), (Kd.fresh' (Kd.R_lt (by (with_reducible repeat (first | apply Kd.R_alloc | apply Kd.R_drewN | apply Kd.R_drew)); exact (Kd.R_mono (Kd.R_far (p := ⟨gb364, 1, none⟩) (Kd.R_far (p := ⟨gb364, 0, none⟩) (Kd.R_types HO362.out BK364.out (by decide)) (fun _ hk => hk.2) (.slice Ao94 t357.length co94)) (fun _ hk => hk.2) (.slice Ao96 t360.length co96)) (fun _ h_ => h_.1)))) k_ hk_.1), (Kd.freshB (g := gb364) (o := .cells #[.slice Ao94 t357.length co94, .slice Ao96 t360.length co96] 24 (0, 0)) (by (with_reducible repeat (first | refine blk_drewN ?_ _ | refine blk_drew ?_ | refine blk_alloc ?_ _)); refine blk_put (cs := #[.slice Ao94 t357.length co94, .slice none 0 0]) ?_ 1 _ rfl; (with_reducible repeat (first | refine blk_drewN ?_ _ | refine blk_drew ?_ | refine blk_alloc ?_ _)); refine blk_put (cs := #[.slice none 0 0, .slice none 0 0]) ?_ 0 _ rfl; (with_reducible repeat (first | refine blk_drewN ?_ _ | refine blk_drew ?_ | refine blk_alloc ?_ _)); exact BK364.out) k_ hk_.1)⟩)) (below_size (by repeat (first | (with_reducible first | exact HB.out | apply below_alloc | apply pw_below_drewN | apply below_drew1 | refine below_set ?_ GE364.out) | exact HB.out)))); have n4_ := Aside0.mk (Kd.R_lower (Kd.R_new' (Kd.R_new' (Kd.R_mono (ok' := fun k_ => True) ho1 (fun _ hk_ => trivial)) (Kd.R_lt (by (with_reducible repeat (first | apply Kd.R_alloc | apply Kd.R_drewN | apply Kd.R_drew)); exact (Kd.R_mono (Kd.R_far (p := ⟨gb364, 1, none⟩) (Kd.R_far (p := ⟨gb364, 0, none⟩) (Kd.R_types HO359.out BK364.out (by decide)) (fun _ hk => hk.2) (.slice Ao94 t357.length co94)) (fun _ hk => hk.2) (.slice Ao96 t360.length co96)) (fun _ h_ => h_.1))))) (Kd.R_lt (by (with_reducible repeat (first | apply Kd.R_alloc | apply Kd.R_drewN | apply Kd.R_drew)); exact (Kd.R_mono (Kd.R_far (p := ⟨gb364, 1, none⟩) (Kd.R_far (p := ⟨gb364, 0, none⟩) (Kd.R_types HO362.out BK364.out (by decide)) (fun _ hk => hk.2) (.slice Ao94 t357.length co94)) (fun _ hk => hk.2) (.slice Ao96 t360.length co96)) (fun _ h_ => h_.1))))) (below_size (by repeat (first | (with_reducible first | exact HB.out | apply below_alloc | apply pw_below_drewN | apply below_drew1 | refine below_set ?_ GE364.out) | exact HB.out)))); have n5_ := Aside0.mk (Kd.V_lower (Kd.V_mono (ok' := fun k_ => some k_ ≠ (v369 : Value).ownBlock ∧ some k_ ≠ (v376 : Value).ownBlock ∧ some k_ ≠ (v345 : Value).ownBlock ∧ some k_ ≠ (.slice Ao94 t357.length co94 : Value).ownBlock ∧ some k_ ≠ (.slice Ao96 t360.length co96 : Value).ownBlock ∧ k_ ≠ gb364) ho2 (fun k_ hk_ => ⟨hk_.2.1, hk_.2.2, (Kd.fresh' (Kd.N_lt (by (with_reducible repeat (first | apply Kd.N_alloc | apply Kd.N_drewN | apply Kd.N_drew)); exact (Kd.N_mono (Kd.N_far (p := ⟨gb364, 1, none⟩) (Kd.N_far (p := ⟨gb364, 0, none⟩) (Kd.N_mono HO_18.out (fun k_ hk => (⟨hk, hk.2⟩ : _ ∧ k_ ≠ gb364))) (fun _ hk => hk.2) (.slice Ao94 t357.length co94)) (fun _ hk => hk.2) (.slice Ao96 t360.length co96)) (fun _ h_ => h_.1)))) k_ hk_.1), (Kd.fresh' (Kd.R_lt (by (with_reducible repeat (first | apply Kd.R_alloc | apply Kd.R_drewN | apply Kd.R_drew)); exact (Kd.R_mono (Kd.R_far (p := ⟨gb364, 1, none⟩) (Kd.R_far (p := ⟨gb364, 0, none⟩) (Kd.R_types HO359.out BK364.out (by decide)) (fun _ hk => hk.2) (.slice Ao94 t357.length co94)) (fun _ hk => hk.2) (.slice Ao96 t360.length co96)) (fun _ h_ => h_.1)))) k_ hk_.1), (Kd.fresh' (Kd.R_lt (by (with_reducible repeat (first | apply Kd.R_alloc | apply Kd.R_drewN | apply Kd.R_drew)); exact (Kd.R_mono (Kd.R_far (p := ⟨gb364, 1, none⟩) (Kd.R_far (p := ⟨gb364, 0, none⟩) (Kd.R_types HO362.out BK364.out (by decide)) (fun _ hk => hk.2) (.slice Ao94 t357.length co94)) (fun _ hk => hk.2) (.slice Ao96 t360.length co96)) (fun _ h_ => h_.1)))) k_ hk_.1), (Kd.freshB (g := gb364) (o := .cells #[.slice Ao94 t357.length co94, .slice Ao96 t360.length co96] 24 (0, 0)) (by (with_reducible repeat (first | refine blk_drewN ?_ _ | refine blk_drew ?_ | refine blk_alloc ?_ _)); refine blk_put (cs := #[.slice Ao94 t357.length co94, .slice none 0 0]) ?_ 1 _ rfl; (with_reducible repeat (first | refine blk_drewN ?_ _ | refine blk_drew ?_ | refine blk_alloc ?_ _)); refine blk_put (cs := #[.slice none 0 0, .slice none 0 0]) ?_ 0 _ rfl; (with_reducible repeat (first | refine blk_drewN ?_ _ | refine blk_drew ?_ | refine blk_alloc ?_ _)); exact BK364.out) k_ hk_.1)⟩)) (below_size (by repeat (first | (with_reducible first | exact HB.out | apply below_alloc | apply pw_below_drewN | apply below_drew1 | refine below_set ?_ GE364.out) | exact HB.out)))); have n6_ := Aside0.mk (Kd.N_lower (Kd.N_mono (ok' := fun k_ => some k_ ≠ (v369 : Value).ownBlock ∧ some k_ ≠ (v345 : Value).ownBlock ∧ some k_ ≠ (.slice Ao94 t357.length co94 : Value).ownBlock ∧ some k_ ≠ (.slice Ao96 t360.length co96 : Value).ownBlock ∧ k_ ≠ gb364) ho3 (fun k_ hk_ => ⟨hk_.2, (Kd.fresh' (Kd.N_lt (by (with_reducible repeat (first | apply Kd.N_alloc | apply Kd.N_drewN | apply Kd.N_drew)); exact (Kd.N_mono (Kd.N_far (p := ⟨gb364, 1, none⟩) (Kd.N_far (p := ⟨gb364, 0, none⟩) (Kd.N_mono HO_18.out (fun k_ hk => (⟨hk, hk.2⟩ : _ ∧ k_ ≠ gb364))) (fun _ hk => hk.2) (.slice Ao94 t357.length co94)) (fun _ hk => hk.2) (.slice Ao96 t360.length co96)) (fun _ h_ => h_.1)))) k_ hk_.1), (Kd.fresh' (Kd.R_lt (by (with_reducible repeat (first | apply Kd.R_alloc | apply Kd.R_drewN | apply Kd.R_drew)); exact (Kd.R_mono (Kd.R_far (p := ⟨gb364, 1, none⟩) (Kd.R_far (p := ⟨gb364, 0, none⟩) (Kd.R_types HO359.out BK364.out (by decide)) (fun _ hk => hk.2) (.slice Ao94 t357.length co94)) (fun _ hk => hk.2) (.slice Ao96 t360.length co96)) (fun _ h_ => h_.1)))) k_ hk_.1), (Kd.fresh' (Kd.R_lt (by (with_reducible repeat (first | apply Kd.R_alloc | apply Kd.R_drewN | apply Kd.R_drew)); exact (Kd.R_mono (Kd.R_far (p := ⟨gb364, 1, none⟩) (Kd.R_far (p := ⟨gb364, 0, none⟩) (Kd.R_types HO362.out BK364.out (by decide)) (fun _ hk => hk.2) (.slice Ao94 t357.length co94)) (fun _ hk => hk.2) (.slice Ao96 t360.length co96)) (fun _ h_ => h_.1)))) k_ hk_.1), (Kd.freshB (g := gb364) (o := .cells #[.slice Ao94 t357.length co94, .slice Ao96 t360.length co96] 24 (0, 0)) (by (with_reducible repeat (first | refine blk_drewN ?_ _ | refine blk_drew ?_ | refine blk_alloc ?_ _)); refine blk_put (cs := #[.slice Ao94 t357.length co94, .slice none 0 0]) ?_ 1 _ rfl; (with_reducible repeat (first | refine blk_drewN ?_ _ | refine blk_drew ?_ | refine blk_alloc ?_ _)); refine blk_put (cs := #[.slice none 0 0, .slice none 0 0]) ?_ 0 _ rfl; (with_reducible repeat (first | refine blk_drewN ?_ _ | refine blk_drew ?_ | refine blk_alloc ?_ _)); exact BK364.out) k_ hk_.1)⟩)) (below_size (by repeat (first | (with_reducible first | exact HB.out | apply below_alloc | apply pw_below_drewN | apply below_drew1 | refine below_set ?_ GE364.out) | exact HB.out)))); have n7_ := Aside0.mk (blk_below (g := gb364) (o := .cells #[.slice Ao94 t357.length co94, .slice Ao96 t360.length co96] 24 (0, 0)) (by (with_reducible repeat (first | refine blk_drewN ?_ _ | refine blk_drew ?_ | refine blk_alloc ?_ _)); refine blk_put (cs := #[.slice Ao94 t357.length co94, .slice none 0 0]) ?_ 1 _ rfl; (with_reducible repeat (first | refine blk_drewN ?_ _ | refine blk_drew ?_ | refine blk_alloc ?_ _)); refine blk_put (cs := #[.slice none 0 0, .slice none 0 0]) ?_ 0 _ rfl; (with_reducible repeat (first | refine blk_drewN ?_ _ | refine blk_drew ?_ | refine blk_alloc ?_ _)); exact BK364.out) hb); have n8_ := Aside0.mk (below_step (by repeat (first | (with_reducible first | exact HB.out | apply below_alloc | apply pw_below_drewN | apply below_drew1 | refine below_set ?_ GE364.out) | exact HB.out)) hb); clear HO_18; clear HO359; clear HO362; clear BK364; clear HB; have HO_18 := n0_; have HO359 := n1_; have HO362 := n2_; have HO367 := n3_; have HO370 := n4_; have HO373 := n5_; have HO377 := n6_; have BK364 := n7_; have HB := n8_; clear n0_ n1_ n2_ n3_ n4_ n5_ n6_ n7_ n8_; (try clear hb); (try clear hb2); (try clear hk); (try clear hi); (try clear ho0); (try clear ho1); (try clear ho2); (try clear ho3)) | ((with_reducible refine gate_dst (N := 21) rfl ?_); (try (refine gate_guard (by rfl) ?_; dsimp only)); refine box_event ?hg (N := 21) ?hd (cs := #[.slice none 0 0, .slice none 0 0]) (t := 24) ?hr ?_; (case hd => rfl); (case hg => rfl); (case hr => first | (go_simp; done) | (go_simp; rfl)); intro gb378 hg w98 hbox hb; have n0_ := Aside0.mk (Kd.N_below (Kd.N_elderB (by exact pN HO_18.out) gb378 (Nat.le_of_eq hg.symm)) hb); have n1_ := Aside0.mk (Kd.V_below (Kd.V_elderB (by exact pV HO367.out) gb378 (Nat.le_of_eq hg.symm)) hb); have n2_ := Aside0.mk (Kd.R_below (by exact pR HO370.out) hb); have n3_ := Aside0.mk (Kd.N_below (Kd.N_elderB (by exact pN HO377.out) gb378 (Nat.le_of_eq hg.symm)) hb); have n4_ := Aside0.mk (below_step (by exact pB HB.out) hb); have n5_ := Aside0.mk (hbox); have n6_ := Aside0.mk ((by rw [hg]; exact (below_size (by exact pB HB.out)) : w.heap.size ≤ gb378)); have n7_ := Aside0.mk ((by rw [hg]; exact (below_size (by exact pB HB.out)) : w.heap.size ≤ gb378)); clear HO_18; clear HO367; clear HO370; clear HO377; clear HB; have HO_18 := n0_; have HO367 := n1_; have HO370 := n2_; have HO377 := n3_; have HB := n4_; have BK378 := n5_; have GW378 := n6_; have GE378 := n7_; clear n0_ n1_ n2_ n3_ n4_ n5_ n6_ n7_; clear hb hbox hg; obtain ⟨Ao99, co99, eo99⟩ := Kd.V_slice HO367.out; subst eo99; have hcz100_0 : w98.cell? ⟨gb378, 0, none⟩ = some (.slice none 0 0) := (blk_cell BK378.out 0).trans rfl; have hcz100_1 : w98.cell? ⟨gb378, 1, none⟩ = some (.slice none 0 0) := (blk_cell BK378.out 1).trans rfl; have hfz100_0 := blk_frozen BK378.out 0; have hfz100_1 := blk_frozen BK378.out 1; obtain ⟨Ao101, co101, eo101⟩ := Kd.R_slice HO370.out; subst eo101) | ((with_reducible refine gate_dst (N := 123) rfl ?_); (try (refine gate_guard (by rfl) ?_; dsimp only)); refine Kd.N_lit (Kd.slice 5 (Kd.int .u8)) _ 22 ?hg (N' := 123) ?hd (xs := ([] : List (List Int))) (inner := []) (ok := (fun k_ => some k_ ≠ (v345 : Value).ownBlock ∧ some k_ ≠ (.slice Ao101 t368.length co101 : Value).ownBlock ∧ some k_ ≠ (v376 : Value).ownBlock ∧ k_ ≠ gb378)) (okp := (fun k_ => some k_ ≠ (v345 : Value).ownBlock ∧ some k_ ≠ (.slice Ao101 t368.length co101 : Value).ownBlock ∧ some k_ ≠ (v376 : Value).ownBlock ∧ k_ ≠ gb378)) ?hr ?hp (fun _ hk => hk) ((show ∀ k_, w98.heap.size ≤ k_ → (fun k_ => some k_ ≠ (v345 : Value).ownBlock ∧ some k_ ≠ (.slice Ao101 t368.length co101 : Value).ownBlock ∧ some k_ ≠ (v376 : Value).ownBlock ∧ k_ ≠ gb378) k_ from fun k_ hk => ⟨Kd.fresh' (Kd.N_lt (HO_18.out)) k_ hk, Kd.fresh' (Kd.R_lt (HO370.out)) k_ hk, Kd.fresh' (Kd.N_lt (HO377.out)) k_ hk, Kd.freshB BK378.out k_ hk⟩) _ (by simp only [World.size_setCell]; exact Nat.le_refl _)) (Below.refl _ _) (Nat.le_refl _) (by simp) ?_; (case hd => rfl); (case hg => rfl); (case hr => first | (go_simp; done) | (go_simp; rfl)); (case hp => exact (Reps.none _ _)); intro v380 w102 ho103 hb hg_ hnew_; clear hg_ hnew_; (first | rw [← Ny379.out] at ho103 | (simp only [Int.reduceToNat] at ho103; rw [← Ny379.out] at ho103)); have n0_ := Aside0.mk (Kd.N_elder' (by (with_reducible repeat (first | apply Kd.N_alloc | apply Kd.N_drewN | apply Kd.N_drew)); exact (Kd.N_mono (Kd.N_far (p := ⟨gb378, 1, none⟩) (Kd.N_far (p := ⟨gb378, 0, none⟩) (Kd.N_mono HO_18.out (fun k_ hk => (⟨hk, hk.2⟩ : _ ∧ k_ ≠ gb378))) (fun _ hk => hk.2) (.slice Ao99 t365.length co99)) (fun _ hk => hk.2) (.slice Ao101 t368.length co101)) (fun _ h_ => h_.1))) (by first | exact Kd.N_base ho103 | exact Kd.S_base ho103 | exact Kd.R_base ho103 | exact Kd.Q_base ho103) hb); have n1_ := Aside0.mk (Kd.V_elder' (by (with_reducible repeat (first | apply Kd.V_alloc | apply Kd.V_drewN | apply Kd.V_drew)); exact (Kd.V_mono (Kd.V_far (p := ⟨gb378, 1, none⟩) (Kd.V_far (p := ⟨gb378, 0, none⟩) (Kd.V_mono HO367.out (fun k_ hk => (⟨hk, hk.2⟩ : _ ∧ k_ ≠ gb378))) (fun _ hk => hk.2) (.slice Ao99 t365.length co99)) (fun _ hk => hk.2) (.slice Ao101 t368.length co101)) (fun _ h_ => h_.1))) (by first | exact Kd.N_base ho103 | exact Kd.S_base ho103 | exact Kd.R_base ho103 | exact Kd.Q_base ho103) hb); have n2_ := Aside0.mk (Kd.R_below (by (with_reducible repeat (first | apply Kd.R_alloc | apply Kd.R_drewN | apply Kd.R_drew)); exact (Kd.R_mono (Kd.R_far (p := ⟨gb378, 1, none⟩) (Kd.R_far (p := ⟨gb378, 0, none⟩) (Kd.R_types HO370.out BK378.out (by decide)) (fun _ hk => hk.2) (.slice Ao99 t365.length co99)) (fun _ hk => hk.2) (.slice Ao101 t368.length co101)) (fun _ h_ => h_.1))) hb); have n3_ := Aside0.mk (Kd.N_elder' (by (with_reducible repeat (first | apply Kd.N_alloc | apply Kd.N_drewN | apply Kd.N_drew)); exact (Kd.N_mono (Kd.N_far (p := ⟨gb378, 1, none⟩) (Kd.N_far (p := ⟨gb378, 0, none⟩) (Kd.N_mono HO377.out (fun k_ hk => (⟨hk, hk.2⟩ : _ ∧ k_ ≠ gb378))) (fun _ hk => hk.2) (.slice Ao99 t365.length co99)) (fun _ hk => hk.2) (.slice Ao101 t368.length co101)) (fun _ h_ => h_.1))) (by first | exact Kd.N_base ho103 | exact Kd.S_base ho103 | exact Kd.R_base ho103 | exact Kd.Q_base ho103) hb); have n4_ := Aside0.mk (Kd.N_lower ho103 (below_size (by repeat (first | (with_reducible first | exact HB.out | apply below_alloc | apply pw_below_drewN | apply below_drew1 | refine below_set ?_ GE378.out) | exact HB.out)))); have n5_ := Aside0.mk (blk_below (g := gb378) (o := .cells #[.slice Ao99 t365.length co99, .slice Ao101 t368.length co101] 24 (0, 0)) (by (with_reducible repeat (first | refine blk_drewN ?_ _ | refine blk_drew ?_ | refine blk_alloc ?_ _)); refine blk_put (cs := #[.slice Ao99 t365.length co99, .slice none 0 0]) ?_ 1 _ rfl; (with_reducible repeat (first | refine blk_drewN ?_ _ | refine blk_drew ?_ | refine blk_alloc ?_ _)); refine blk_put (cs := #[.slice none 0 0, .slice none 0 0]) ?_ 0 _ rfl; (with_reducible repeat (first | refine blk_drewN ?_ _ | refine blk_drew ?_ | refine blk_alloc ?_ _)); exact BK378.out) hb); have n6_ := Aside0.mk (below_step (by repeat (first | (with_reducible first | exact HB.out | apply below_alloc | apply pw_below_drewN | apply below_drew1 | refine below_set ?_ GE378.out) | exact HB.out)) hb); clear HO_18; clear HO367; clear HO370; clear HO377; clear BK378; clear HB; have HO_18 := n0_; have HO367 := n1_; have HO370 := n2_; have HO377 := n3_; have HO381 := n4_; have BK378 := n5_; have HB := n6_; clear n0_ n1_ n2_ n3_ n4_ n5_ n6_; clear hb ho103; obtain ⟨Ao105, co105, eo105⟩ := Kd.N_slice HO_18.out; subst eo105) | ((with_reducible refine gate_builtin (b := .append) (xs := #[.tmp 123, .tmp 124]) rfl ?_); (try (refine gate_guard (by rfl) ?_; dsimp only)); at_builtin; refine Kd.N_append_rows (Kd.slice 5 (Kd.int .u8)) (w0 := w) w.heap.size rfl (.tmp 123) (.tmp 124) 34 22 (.slice none 0 0) 24 rfl Try.underlying34 info22 rfl (by decide) (by omega) v380 y379 t344 _ _ _ (fun k_ => some k_ ≠ (v376 : Value).ownBlock) (fun k_ => ((fun k_ => some k_ ≠ (v376 : Value).ownBlock)) k_ ∧ some k_ ≠ (v380 : Value).ownBlock) rfl rfl ?aO ?aR (fun _ hk => hk) ?aF ?aB ?aS ?aL ?_; (case aR => exact (by skip; exact Kd.N_F (Kd.N_mono (ok' := (fun k_ => ((fun k_ => some k_ ≠ (v376 : Value).ownBlock)) k_ ∧ some k_ ≠ (v380 : Value).ownBlock)) (HO_18.out) (fun k_ hk => ⟨hk.1.1.2, hk.2⟩)))); (case aB => exact (by exact pB HB.out)); (case aF => exact (fun k_ hk => Kd.fresh' (Kd.N_lt (by exact pN HO377.out)) k_ hk)); (case aO => exact (by exact pN (Kd.N_mono HO381.out (fun _ hk => hk.2.2.1)))); (case aS => exact (below_size (by exact pB HB.out))); (case aL => have := LMc83.out; omega); intro v383 w104 ho hb hg hat; rw [← Ny382.out] at ho; have n0_ := Aside0.mk (Kd.N_afterv (ok := (fun k_ => some k_ ≠ (v376 : Value).ownBlock ∧ k_ ≠ gb347 ∧ k_ ≠ gb364 ∧ k_ ≠ gb378)) (by exact pN (Kd.N_mono HO_18.out (fun _ hk => ⟨⟨hk.1.1.2, ⟨hk.1.1.1.1.1.1.1.2, ⟨hk.1.1.1.1.2, hk.1.2⟩⟩⟩, hk.2⟩))) hg hat); have n1_ := Aside0.mk (Kd.N_afterv (ok := (fun k_ => some k_ ≠ (.slice Ao105 t344.length co105 : Value).ownBlock ∧ k_ ≠ gb364 ∧ k_ ≠ gb378)) (by exact pN (Kd.N_mono HO377.out (fun _ hk => ⟨⟨hk.1.1.2.1, ⟨hk.1.1.2.2.2.2, hk.1.2⟩⟩, hk.2⟩))) hg hat); have n2_ := Aside0.mk (hb); have n3_ := Aside0.mk (ho); clear HO_18; clear HO377; clear HB; clear HO381; have HO_18 := n0_; have HO377 := n1_; have HB := n2_; have HO384 := n3_; clear n0_ n1_ n2_ n3_; clear ho hb hg hat) | ((with_reducible refine gate_dst (N := 127) rfl ?_); (try (refine gate_guard (by rfl) ?_; dsimp only)); refine Go.Proofs.Ythnlepmfjhhgfaa.XWords.V_const _ 5 ?hg (N := 127) ?hd (xs := ([109, 111, 114, 101] : List Int)) 22 (.tmp 126) ?hop Try.underlying22 Try.underlying5 (cs := #[.int .u8 109, .int .u8 111, .int .u8 114, .int .u8 101]) ?hcs (n := 4) ?hs ?hn (by simp) (Below.refl _ _) (Nat.le_refl _) ?_; (case hd => rfl); (case hg => rfl); (case hop => rfl); (case hcs => rfl); (case hs => rfl); (case hn => rfl); intro v386 w106 ho107 hb hg_ hnew_; clear hg_ hnew_; (first | rw [← Ny385.out] at ho107 | (simp only [Int.reduceToNat] at ho107; rw [← Ny385.out] at ho107)); have n0_ := Aside0.mk (Kd.N_below (by exact pN HO377.out) hb); have n1_ := Aside0.mk (Kd.N_below (by exact pN HO384.out) hb); have n2_ := Aside0.mk (Kd.V_lower (Kd.V_mono (ok' := fun k_ => some k_ ≠ (v376 : Value).ownBlock ∧ some k_ ≠ (v383 : Value).ownBlock) ho107 (fun k_ hk_ => ⟨(Kd.fresh' (Kd.N_lt (by exact pN HO377.out)) k_ hk_), (Kd.fresh' (Kd.N_lt (by exact pN HO384.out)) k_ hk_)⟩)) (below_size (by exact pB HB.out))); have n3_ := Aside0.mk (below_step (by exact pB HB.out) hb); clear HO377; clear HO384; clear HB; have HO377 := n0_; have HO384 := n1_; have HO387 := n2_; have HB := n3_; clear n0_ n1_ n2_ n3_; clear hb ho107; obtain ⟨Ao109, co109, eo109⟩ := Kd.V_slice HO387.out; subst eo109) | ((with_reducible refine gate_builtin (b := .append) (xs := #[.tmp 125, .tmp 128]) rfl ?_); (try (refine gate_guard (by rfl) ?_; dsimp only)); at_builtin; refine Kd.N_append (Kd.slice 5 (Kd.int .u8)) (w0 := w) w.heap.size rfl (.tmp 125) (.tmp 128) 34 22 (.slice none 0 0) 24 rfl Try.underlying34 info22 rfl (by decide) (by omega) v383 y382 y385 [.slice Ao109 y385.length co109] (fun k_ => some k_ ≠ (v376 : Value).ownBlock) (fun k_ => ((fun k_ => some k_ ≠ (v376 : Value).ownBlock)) k_ ∧ some k_ ≠ (v383 : Value).ownBlock) rfl rfl ?aP (fun _ hk => hk) ?aF ?aO ?aB ?aS ?aL ?_; (case aP => exact (Kd.FK_slice_mk (Kd.V_reads' (Kd.V_mono (ok' := (fun k_ => ((fun k_ => some k_ ≠ (v376 : Value).ownBlock)) k_ ∧ some k_ ≠ (v383 : Value).ownBlock)) (HO387.out) (fun k_ hk => ⟨hk.1, hk.2⟩))).2.1 (Kd.V_F (Kd.V_mono (ok' := (fun k_ => ((fun k_ => some k_ ≠ (v376 : Value).ownBlock)) k_ ∧ some k_ ≠ (v383 : Value).ownBlock)) (HO387.out) (fun k_ hk => ⟨hk.1, hk.2⟩))))); (case aB => exact (by exact pB HB.out)); (case aF => exact (fun k_ hk => Kd.fresh' (Kd.N_lt (by exact pN HO377.out)) k_ hk)); (case aO => exact (by exact pN HO384.out)); (case aS => exact (below_size (by exact pB HB.out))); (case aL => have := LMc84.out; omega); intro v389 w108 ho hb hg hat; rw [← Ny388.out] at ho; have n0_ := Aside0.mk (Kd.N_afterv (ok := (fun k_ => k_ ≠ gb364 ∧ k_ ≠ gb378)) (by exact pN (Kd.N_mono HO377.out (fun _ hk => ⟨⟨hk.1.2.1, hk.1.2.2⟩, hk.2⟩))) hg hat); have n1_ := Aside0.mk (Kd.V_afterv (ok := (fun k_ => some k_ ≠ (v376 : Value).ownBlock)) (by exact pV HO387.out) hg hat); have n2_ := Aside0.mk (hb); have n3_ := Aside0.mk (ho); clear HO377; clear HO387; clear HB; clear HO384; have HO377 := n0_; have HO387 := n1_; have HB := n2_; have HO390 := n3_; clear n0_ n1_ n2_ n3_; clear ho hb hg hat; obtain ⟨Ao110, co110, eo110⟩ := Kd.N_slice HO377.out; subst eo110; obtain ⟨Ao111, co111, eo111⟩ := Kd.N_slice HO390.out; subst eo111) | (go_at_call 40; (with_reducible refine (customsref33_SameRecords.calls kj50 _ _ t375 _ _ y388 true _ ?side1 ?side2 ?side3 ?side4 A85.out).mono ?_); (case side1 => exact pC (Kd.N_reads' HO377.out).2.2); (case side2 => exact (Kd.N_reads' HO377.out).2.1); (case side3 => exact pC (Kd.N_reads' HO390.out).2.2); (case side4 => exact (Kd.N_reads' HO390.out).2.1); rintro e w' ⟨rfl, ⟨nd, rfl⟩⟩) | (go_at_call 32; (with_reducible refine (customslaw34_awake.calls kj50  t392 _ A87.out).mono ?_); rintro e w112 ⟨rfl, hb⟩; have n0_ := Aside0.mk (below_step (by exact pB HB.out) hb); clear HB; have HB := n0_; clear n0_; (try clear hb); (try clear hb2); (try clear hk); (try clear hi)))
                  go_ret
                  exact ⟨by first | rfl | (rw [HTR.out]; first | done | rfl) | (simp [errW_none, errW_some] <;> rfl) | (simp [*, errW_none, errW_some] <;> rfl), by exact pB HB.out⟩

end Go.Proofs.Ythnlepmfjhhgfaa.PJournalCrash
