/-
  The contract of channel.Flush (a goto): by a walk: what the printed Transmit answers, then each message delivered, then each acknowledgement confirmed. Conditions: fewer than 100000 elements on the line's two lists.
-/
import Derived.Test.YtlhmgigjbeefbaaPureLine
import Derived.ScopeJumps
import Derived.Deep.LoopGhost
namespace Go.Proofs.Ytlhmgigjbeefbaa.XFlush
set_option linter.unusedVariables false
set_option linter.unusedSimpArgs false
open Go.RowKit Go.Proofs.Ytlhmgigjbeefbaa.PChannelSteps Go.Proofs.Ytlhmgigjbeefbaa.PureLine Go.Proofs.YtlhmgigjbeefbaaW.PrintWords Go.Proofs.YtlhmgigjbeefbaaW.PrintLast Go.Proofs.YtlhmgigjbeefbaaW.PrintMore
attribute [local go_sem] max2_int min2_int max_two min_two max_three min_three max_four min_four

/-! ### A label that is jumped back to -/
section
variable {P : Program} {Q : Exit → Act → World → Prop}
/-- From here some relation holds that each pass hands on at a smaller number. -/
def Held (P : Program) (rest : Code) (l : Nat) (Q : Exit → Act → World → Prop) (n : Nat) (a : Act) (w : World) : Prop :=
  ∃ R : Nat → Act → World → Prop, (∀ n a w, R n a w → rest.wp P (Exit.jump l (fun a' w' => ∃ n', n' < n ∧ R n' a' w') Q) a w) ∧ R n a w

theorem jump_mono {J J' : Act → World → Prop} {l : Nat} (h : ∀ a w, J a w → J' a w) : ∀ e a w, Exit.jump l J Q e a w → Exit.jump l J' Q e a w := by
  intro e a w hq
  cases e with
  | goto l' => exact ⟨hq.1, h _ _ hq.2⟩
  | normal => exact hq
  | exit id => exact hq
  | ret => exact hq
  | panic ch => exact hq
  | outgrown => exact hq

theorem Exit.jump_ret {J : Act → World → Prop} {l : Nat} {a : Act} {w : World} : Exit.jump l J Q .ret a w = Q .ret a w := rfl

theorem wp_label {c rest : Code} {a : Act} {w : World} (l : Nat) (hf : findLabel c l = some rest)
    (first : c.wp P (Exit.jump l (fun a w => ∃ n, Held P rest l Q n a w) Q) a w) : (Code.scope c).wp P Q a w := by
  refine wp_scope_jumps l (fun a w => ∃ n, Held P rest l Q n a w) (fun a w => leastOf (fun n => Held P rest l Q n a w)) hf first ?_
  intro a w hI
  obtain ⟨R, hR, h0⟩ := (leastOf_spec hI).1
  refine wp_mono (hR _ a w h0) (jump_mono ?_)
  rintro a' w' ⟨n', hlt, h⟩
  exact ⟨⟨n', R, hR, h⟩, Nat.lt_of_le_of_lt ((leastOf_spec (p := fun n => Held P rest l Q n a' w') ⟨n', R, hR, h⟩).2 n' ⟨R, hR, h⟩) hlt⟩

theorem wp_label_loop {X rest : Code} {a : Act} {w : World} {l : Nat} (R : Nat → Act → World → Prop) (n₀ : Nat) (h₀ : ∀ a0, a0 = a → R n₀ a0 w) (hX : rest = Code.skip.seq X)
    (round : ∀ n a w, R n a w → ∀ J : Act → World → Prop, (∀ n' a' w', n' < n → (∀ a0, a0 = a' → R n' a0 w') → J a' w') → X.wp P (Exit.jump l J Q) a w) :
    X.wp P (Exit.jump l (fun a w => ∃ n, Held P rest l Q n a w) Q) a w := by
  have hR : ∀ n a w, R n a w → X.wp P (Exit.jump l (fun a' w' => ∃ n', n' < n ∧ R n' a' w') Q) a w := fun n a w h => round n a w h _ (fun n' a' w' h1 h2 => ⟨n', h1, h2 _ rfl⟩)
  refine wp_mono (hR n₀ a w (h₀ _ rfl)) (jump_mono ?_)
  rintro a' w' ⟨n', _, h⟩
  exact ⟨n', R, fun n a w h => hX ▸ wp_seq (wp_skip (hR n a w h)), h⟩
end

/-! ### What Flush answers -/
def delivP : List Int → List Int → Int → List Int × Int
  | [], bs, r => (bs, r)
  | n :: ws, bs, r => delivP ws (bs ++ [acceptP n r]) (acceptP n r)
def maxP : List Int → Int → Int
  | [], a => a
  | n :: bs, a => maxP bs (mx a n)
def flushP (t : Int × List Int × List Int × Int) (r : Int) : Int × List Int × List Int × Int × Int :=
  if t.2.2.2 = 0 then (if r < 0 then (0, [], [], 0, 2) else if r > 999000 then (0, [], [], 0, 2) else (maxP (delivP t.2.1 t.2.2.1 r).1 t.1, [], [], (delivP t.2.1 t.2.2.1 r).2, 0)) else (0, [], [], 0, t.2.2.2)
def flushF (a0_0 : Int) (l0_1 : List Int) (l0_2 : List Int) (a1 : Int) (a2 : Int) : Option (Int × List Int × List Int × Int × Int) :=
  if l0_1.length < 100000 ∧ l0_2.length < 100000 then some (flushP (transmitP a0_0 l0_1 l0_2 a1) a2) else none

theorem deliv_step (t2 : List Int) (xq : Int) (bs : List Int) (rq : Int) (h0 : 0 ≤ xq) (h1 : xq < (t2.length : Int)) :
    delivP (t2.drop xq.toNat) bs rq = delivP (t2.drop (xq + 1).toNat) (bs ++ [acceptP (rd t2 xq) rq]) (acceptP (rd t2 xq) rq) := by
  obtain ⟨n, rfl⟩ := Int.eq_ofNat_of_zero_le h0
  rw [rd_ge t2 n (by omega), Int.toNat_natCast, show ((n : Int) + 1).toNat = n + 1 by omega, List.drop_eq_getElem_cons (show n < t2.length by omega)]
  rfl
theorem max_step (bs : List Int) (jq acc : Int) (h0 : 0 ≤ jq) (h1 : jq < (bs.length : Int)) : maxP (bs.drop jq.toNat) acc = maxP (bs.drop (jq + 1).toNat) (mx acc (rd bs jq)) := by
  obtain ⟨n, rfl⟩ := Int.eq_ofNat_of_zero_le h0
  rw [rd_ge bs n (by omega), Int.toNat_natCast, show ((n : Int) + 1).toNat = n + 1 by omega, List.drop_eq_getElem_cons (show n < bs.length by omega)]
  rfl
theorem accept_range (n r : Int) : r ≤ acceptP n r ∧ acceptP n r ≤ r + 1 := by
  unfold acceptP
  split <;> omega

theorem info3 : (Try.prog.info? 3).map (fun i => (i.zero, i.size, i.bytes)) = some (some (.int .i64 0), 1, 8) := by kernel_rfl

set_option maxHeartbeats 8000000 in
set_option maxRecDepth 100000 in
theorem flush_calls (a0_0 : Int) (A0_1 : Option Addr) (c0_1 : Nat) (l0_1 : List Int) (A0_2 : Option Addr) (c0_2 : Nat) (l0_2 : List Int) (a1 : Int) (a2 : Int) (r1 : Int) (r2 : List Int) (r3 : List Int) (r4 : Int) (r5 : Int) (w : World) (hr0_1 : Kd.C (Kd.int .i64) w A0_1 l0_1.length l0_1) (hc0_1 : l0_1.length ≤ c0_1) (hr0_2 : Kd.C (Kd.int .i64) w A0_2 l0_2.length l0_2) (hc0_2 : l0_2.length ≤ c0_2) (h : flushF a0_0 l0_1 l0_2 a1 a2 = some (r1, r2, r3, r4, r5)) :
    Calls Try.prog 8 #[.agg #[.int .i64 a0_0, .slice A0_1 l0_1.length c0_1, .slice A0_2 l0_2.length c0_2], .int .i64 a1, .int .i64 a2] w fun e w' => ∃ v1_ v2_ : Value, e = .returned (.tuple #[.agg #[.int .i64 r1, v1_, v2_], .int .i64 r4, .int .i64 r5]) ∧ Kd.R (Kd.int .i64) 3 w' w.heap.size (fun k_ => some k_ ≠ (v2_ : Value).ownBlock) v1_ r2 ∧ Kd.R (Kd.int .i64) 3 w' w.heap.size (fun k_ => some k_ ≠ (v1_ : Value).ownBlock) v2_ r3 ∧ Below w.heap.size w w' := by
  have hu24 := Try.underlying24
  have HR0_1 := Aside0.mk hr0_1
  have HC0_1 := Aside0.mk hc0_1
  clear hr0_1 hc0_1
  have HR0_2 := Aside0.mk hr0_2
  have HC0_2 := Aside0.mk hc0_2
  clear hr0_2 hc0_2
  unfold flushF at h
  have hlen : l0_1.length < 100000 ∧ l0_2.length < 100000 := by
    refine Classical.byContradiction fun hn => ?_
    rw [if_neg hn] at h
    simp at h
  rw [if_pos hlen] at h
  replace h := Option.some.inj h
  have hT := transmit_ok a0_0 l0_1 l0_2 a1 (by unfold Fit; omega) (by unfold Fit; omega) 1003 (by omega)
  have hTl := transmitP_len a0_0 l0_1 l0_2 a1
  have HLEN := Aside0.mk hlen
  clear hlen
  obtain ⟨⟨t1, t2, t3, t4⟩, ht⟩ : ∃ t, transmitP a0_0 l0_1 l0_2 a1 = t := ⟨_, rfl⟩
  rw [ht] at hT hTl h
  clear ht
  have HT := Aside0.mk hT
  have HTL := Aside0.mk hTl
  have HH := Aside0.mk h
  clear hT hTl h
  have HB := Aside0.mk (Below.refl w.heap.size w)
  go_enter Try.func8, Try.ntmps8
  go_wp2_with (first | ((with_reducible refine gate_dst (N := 3) rfl ?_); refine box_event ?hg (N := 3) ?hd (cs := #[.int .i64 a0_0, .slice A0_1 l0_1.length c0_1, .slice A0_2 l0_2.length c0_2]) (t := 24) ?hr ?_; (case hd => rfl); (case hg => rfl); (case hr => first | (go_simp; done) | (go_simp; rfl)); intro g3 hg w4 hbox hb; have HB4 := Aside0.mk (below_step HB.out hb); have BK3 := Aside0.mk hbox; have GE3 := Aside0.mk (show w.heap.size ≤ g3 by rw [hg]; exact Nat.le_refl _); clear hb hbox hg HB) | ((with_reducible refine gate_dst (N := 6) rfl ?_); refine box_event ?hg (N := 6) ?hd (cs := #[.int .i64 0, .slice none 0 0, .slice none 0 0]) (t := 24) ?hr ?_; (case hd => rfl); (case hg => rfl); (case hr => first | (go_simp; done) | (go_simp; rfl)); intro g6 hg w5 hbox hb; have HB := Aside0.mk (below_step HB4.out hb); have n0_ := Aside0.mk (blk_below BK3.out hb); have BK6 := Aside0.mk hbox; have GE6 := Aside0.mk (show w.heap.size ≤ g6 by rw [hg]; exact HB4.out.size); have NE := Aside0.mk (show g3 ≠ g6 by rw [hg]; exact Nat.ne_of_lt (blk_lt BK3.out)); clear BK3; have BK3 := n0_; clear n0_ hb hbox hg HB4))
  refine wp_label 0 rfl ?_
  have hcz_0 : w5.cell? ⟨g3, 0, none⟩ = some (.int .i64 a0_0) := (blk_cell BK3.out 0).trans rfl
  have hcz_1 : w5.cell? ⟨g3, 1, none⟩ = some (.slice A0_1 l0_1.length c0_1) := (blk_cell BK3.out 1).trans rfl
  have hcz_2 : w5.cell? ⟨g3, 2, none⟩ = some (.slice A0_2 l0_2.length c0_2) := (blk_cell BK3.out 2).trans rfl
  by_cases c1 : t4 = 0
  · subst c1
    by_cases c2 : a2 < 0
    · have hh := HH.out
      unfold flushP at hh
      rw [if_pos rfl, if_pos c2] at hh
      simp only [Prod.mk.injEq] at hh
      obtain ⟨rfl, rfl, rfl, rfl, rfl⟩ := hh
      have c2b : decide (a2 < 0) = true := decide_eq_true c2
      clear HH c2
      go_wp2_with (first | ((with_reducible refine gate_callee (f := 13) rfl ?_); refine goesL_ (some 16) rfl rfl Try.func13 (by kernel_rfl) rfl #[.agg #[.int .i64 a0_0, .slice A0_1 l0_1.length c0_1, .slice A0_2 l0_2.length c0_2], .int .i64 a1] rfl (by (try simp only [List.map_toArray, List.map_cons, List.map_nil]); first | done | rfl) ?_; (with_reducible refine (channel_Transmit.calls 1003 a0_0 _ _ l0_1 _ _ l0_2 a1 t1 t2 t3 0 _ ?side1 ?side2 ?side3 ?side4 HT.out).mono ?_); (case side1 => exact (Kd.C_below HR0_1.out HB.out)); (case side2 => exact HC0_1.out); (case side3 => exact (Kd.C_below HR0_2.out HB.out)); (case side4 => exact HC0_2.out); rintro e w6 ⟨v1, v2, rfl, ho1, ho2, hb⟩; refine ⟨_, rfl, ?_⟩; obtain ⟨A1, c1, e1⟩ := Kd.R_slice ho1; subst e1; obtain ⟨A2, c2, e2⟩ := Kd.R_slice ho2; subst e2; have n0_ := Aside0.mk (blk_below BK3.out hb); have n1_ := Aside0.mk (blk_below BK6.out hb); have n2_ := Aside0.mk (below_step HB.out hb); have HO1 := Aside0.mk (Kd.R_lower ho1 HB.out.size); have HO2 := Aside0.mk (Kd.R_lower ho2 HB.out.size); clear BK3 BK6 HB hcz_0 hcz_1 hcz_2 hb ho1 ho2; have BK3 := n0_; have BK6 := n1_; have HB := n2_; clear n0_ n1_ n2_; have hcz_0 : w6.cell? ⟨g3, 0, none⟩ = some (.int .i64 a0_0) := (blk_cell BK3.out 0).trans rfl; have hcz_1 : w6.cell? ⟨g3, 1, none⟩ = some (.slice A0_1 l0_1.length c0_1) := (blk_cell BK3.out 1).trans rfl; have hcz_2 : w6.cell? ⟨g3, 2, none⟩ = some (.slice A0_2 l0_2.length c0_2) := (blk_cell BK3.out 2).trans rfl; have hnb := NE.out; have hnc := NE.out.symm; have hdz_0 : w6.cell? ⟨g6, 0, none⟩ = some (.int .i64 0) := (blk_cell BK6.out 0).trans rfl; have hdz_1 : w6.cell? ⟨g6, 1, none⟩ = some (.slice none 0 0) := (blk_cell BK6.out 1).trans rfl; have hdz_2 : w6.cell? ⟨g6, 2, none⟩ = some (.slice none 0 0) := (blk_cell BK6.out 2).trans rfl; have hgz_0 := blk_frozen BK6.out 0; have hgz_1 := blk_frozen BK6.out 1; have hgz_2 := blk_frozen BK6.out 2; have hfz_0 := blk_frozen BK3.out 0; have hfz_1 := blk_frozen BK3.out 1; have hfz_2 := blk_frozen BK3.out 2))
      rw [Exit.jump_ret]
      refine bodyPost_ret (results_ctt rfl _ _ g6 24 #[.int .i64 0, .slice none 0 0, .slice none 0 0] (0, 0) _ rfl (by (with_reducible repeat (first | refine blk_drewN ?_ _ | refine blk_drew ?_ | refine blk_alloc ?_ _)); refine blk_put (cs := #[.int .i64 0, .slice none 0 0, .slice none 0 0]) ?_ 2 _ rfl; refine blk_put (cs := #[.int .i64 0, .slice none 0 0, .slice none 0 0]) ?_ 1 _ rfl; refine blk_put (cs := #[.int .i64 0, .slice none 0 0, .slice none 0 0]) ?_ 0 _ rfl; refine blk_far ?_ NE.out.symm _; refine blk_far ?_ NE.out.symm _; refine blk_far ?_ NE.out.symm _; exact BK6.out) Try.underlying24 rfl (by kernel_rfl)) rfl ?_
      exact ⟨_, _, rfl, Kd.R_nil _ _ _ _ _, Kd.R_nil _ _ _ _ _, by repeat (first | (with_reducible first | exact HB.out | apply below_alloc | apply pw_below_drewN | apply below_drew1 | refine below_set ?_ GE3.out | refine below_set ?_ GE6.out) | exact HB.out)⟩
    · by_cases c3 : a2 > 999000
      · have hh := HH.out
        unfold flushP at hh
        rw [if_pos rfl, if_neg c2, if_pos c3] at hh
        simp only [Prod.mk.injEq] at hh
        obtain ⟨rfl, rfl, rfl, rfl, rfl⟩ := hh
        have c2b : decide (a2 < 0) = false := decide_eq_false c2
        have c3b : decide (999000 < a2) = true := decide_eq_true c3
        clear HH c2 c3
        go_wp2_with (first | ((with_reducible refine gate_callee (f := 13) rfl ?_); refine goesL_ (some 16) rfl rfl Try.func13 (by kernel_rfl) rfl #[.agg #[.int .i64 a0_0, .slice A0_1 l0_1.length c0_1, .slice A0_2 l0_2.length c0_2], .int .i64 a1] rfl (by (try simp only [List.map_toArray, List.map_cons, List.map_nil]); first | done | rfl) ?_; (with_reducible refine (channel_Transmit.calls 1003 a0_0 _ _ l0_1 _ _ l0_2 a1 t1 t2 t3 0 _ ?side1 ?side2 ?side3 ?side4 HT.out).mono ?_); (case side1 => exact (Kd.C_below HR0_1.out HB.out)); (case side2 => exact HC0_1.out); (case side3 => exact (Kd.C_below HR0_2.out HB.out)); (case side4 => exact HC0_2.out); rintro e w6 ⟨v1, v2, rfl, ho1, ho2, hb⟩; refine ⟨_, rfl, ?_⟩; obtain ⟨A1, c1, e1⟩ := Kd.R_slice ho1; subst e1; obtain ⟨A2, c2, e2⟩ := Kd.R_slice ho2; subst e2; have n0_ := Aside0.mk (blk_below BK3.out hb); have n1_ := Aside0.mk (blk_below BK6.out hb); have n2_ := Aside0.mk (below_step HB.out hb); have HO1 := Aside0.mk (Kd.R_lower ho1 HB.out.size); have HO2 := Aside0.mk (Kd.R_lower ho2 HB.out.size); clear BK3 BK6 HB hcz_0 hcz_1 hcz_2 hb ho1 ho2; have BK3 := n0_; have BK6 := n1_; have HB := n2_; clear n0_ n1_ n2_; have hcz_0 : w6.cell? ⟨g3, 0, none⟩ = some (.int .i64 a0_0) := (blk_cell BK3.out 0).trans rfl; have hcz_1 : w6.cell? ⟨g3, 1, none⟩ = some (.slice A0_1 l0_1.length c0_1) := (blk_cell BK3.out 1).trans rfl; have hcz_2 : w6.cell? ⟨g3, 2, none⟩ = some (.slice A0_2 l0_2.length c0_2) := (blk_cell BK3.out 2).trans rfl; have hnb := NE.out; have hnc := NE.out.symm; have hdz_0 : w6.cell? ⟨g6, 0, none⟩ = some (.int .i64 0) := (blk_cell BK6.out 0).trans rfl; have hdz_1 : w6.cell? ⟨g6, 1, none⟩ = some (.slice none 0 0) := (blk_cell BK6.out 1).trans rfl; have hdz_2 : w6.cell? ⟨g6, 2, none⟩ = some (.slice none 0 0) := (blk_cell BK6.out 2).trans rfl; have hgz_0 := blk_frozen BK6.out 0; have hgz_1 := blk_frozen BK6.out 1; have hgz_2 := blk_frozen BK6.out 2; have hfz_0 := blk_frozen BK3.out 0; have hfz_1 := blk_frozen BK3.out 1; have hfz_2 := blk_frozen BK3.out 2))
        rw [Exit.jump_ret]
        refine bodyPost_ret (results_ctt rfl _ _ g6 24 #[.int .i64 0, .slice none 0 0, .slice none 0 0] (0, 0) _ rfl (by (with_reducible repeat (first | refine blk_drewN ?_ _ | refine blk_drew ?_ | refine blk_alloc ?_ _)); refine blk_put (cs := #[.int .i64 0, .slice none 0 0, .slice none 0 0]) ?_ 2 _ rfl; refine blk_put (cs := #[.int .i64 0, .slice none 0 0, .slice none 0 0]) ?_ 1 _ rfl; refine blk_put (cs := #[.int .i64 0, .slice none 0 0, .slice none 0 0]) ?_ 0 _ rfl; refine blk_far ?_ NE.out.symm _; refine blk_far ?_ NE.out.symm _; refine blk_far ?_ NE.out.symm _; exact BK6.out) Try.underlying24 rfl (by kernel_rfl)) rfl ?_
        exact ⟨_, _, rfl, Kd.R_nil _ _ _ _ _, Kd.R_nil _ _ _ _ _, by repeat (first | (with_reducible first | exact HB.out | apply below_alloc | apply pw_below_drewN | apply below_drew1 | refine below_set ?_ GE3.out | refine below_set ?_ GE6.out) | exact HB.out)⟩
      · have hh := HH.out
        unfold flushP at hh
        rw [if_pos rfl, if_neg c2, if_neg c3] at hh
        have HH2 := Aside0.mk hh
        have c2b : decide (a2 < 0) = false := decide_eq_false c2
        have c3b : decide (999000 < a2) = false := decide_eq_false c3
        clear HH hh c2 c3
        go_wp2_with (first | ((with_reducible refine gate_callee (f := 13) rfl ?_); refine goesL_ (some 16) rfl rfl Try.func13 (by kernel_rfl) rfl #[.agg #[.int .i64 a0_0, .slice A0_1 l0_1.length c0_1, .slice A0_2 l0_2.length c0_2], .int .i64 a1] rfl (by (try simp only [List.map_toArray, List.map_cons, List.map_nil]); first | done | rfl) ?_; (with_reducible refine (channel_Transmit.calls 1003 a0_0 _ _ l0_1 _ _ l0_2 a1 t1 t2 t3 0 _ ?side1 ?side2 ?side3 ?side4 HT.out).mono ?_); (case side1 => exact (Kd.C_below HR0_1.out HB.out)); (case side2 => exact HC0_1.out); (case side3 => exact (Kd.C_below HR0_2.out HB.out)); (case side4 => exact HC0_2.out); rintro e w6 ⟨v1, v2, rfl, ho1, ho2, hb⟩; refine ⟨_, rfl, ?_⟩; obtain ⟨A1, c1, e1⟩ := Kd.R_slice ho1; subst e1; obtain ⟨A2, c2, e2⟩ := Kd.R_slice ho2; subst e2; have n0_ := Aside0.mk (blk_below BK3.out hb); have n1_ := Aside0.mk (blk_below BK6.out hb); have n2_ := Aside0.mk (below_step HB.out hb); have HO1 := Aside0.mk (Kd.R_lower ho1 HB.out.size); have HO2 := Aside0.mk (Kd.R_lower ho2 HB.out.size); clear BK3 BK6 HB hcz_0 hcz_1 hcz_2 hb ho1 ho2; have BK3 := n0_; have BK6 := n1_; have HB := n2_; clear n0_ n1_ n2_; have hcz_0 : w6.cell? ⟨g3, 0, none⟩ = some (.int .i64 a0_0) := (blk_cell BK3.out 0).trans rfl; have hcz_1 : w6.cell? ⟨g3, 1, none⟩ = some (.slice A0_1 l0_1.length c0_1) := (blk_cell BK3.out 1).trans rfl; have hcz_2 : w6.cell? ⟨g3, 2, none⟩ = some (.slice A0_2 l0_2.length c0_2) := (blk_cell BK3.out 2).trans rfl; have hnb := NE.out; have hnc := NE.out.symm; have hdz_0 : w6.cell? ⟨g6, 0, none⟩ = some (.int .i64 0) := (blk_cell BK6.out 0).trans rfl; have hdz_1 : w6.cell? ⟨g6, 1, none⟩ = some (.slice none 0 0) := (blk_cell BK6.out 1).trans rfl; have hdz_2 : w6.cell? ⟨g6, 2, none⟩ = some (.slice none 0 0) := (blk_cell BK6.out 2).trans rfl; have hgz_0 := blk_frozen BK6.out 0; have hgz_1 := blk_frozen BK6.out 1; have hgz_2 := blk_frozen BK6.out 2; have hfz_0 := blk_frozen BK3.out 0; have hfz_1 := blk_frozen BK3.out 1; have hfz_2 := blk_frozen BK3.out 2))
        go_step3
        go_step
        rename_i K hK
        refine hK _ _ ?_
        refine wp_label_loop (fun nq a' w' => ∃ (xq : Int) (rq : Int) (bs : List Int) (vb : Value) (fq : Nat → Value), a' = ⟨#[fq 0, fq 1, .int .i64 rq, .pointer (some ⟨g3, 0, none⟩), fq 4, fq 5, .pointer (some ⟨g6, 0, none⟩), .int .i64 0, .int .i64 0, fq 9, .int .i64 xq, fq 11, fq 12, fq 13, fq 14, fq 15, fq 16, fq 17, fq 18, fq 19, fq 20, fq 21, fq 22, fq 23, fq 24, fq 25, fq 26, fq 27, fq 28, fq 29, fq 30, fq 31, fq 32, fq 33, fq 34, fq 35, fq 36, fq 37, fq 38, fq 39, fq 40, fq 41, fq 42, fq 43, fq 44, fq 45, fq 46, fq 47, fq 48, fq 49, fq 50, fq 51, fq 52, fq 53, fq 54, fq 55, fq 56, fq 57, fq 58, fq 59, fq 60, fq 61, fq 62, fq 63, fq 64, fq 65, fq 66], []⟩ ∧ Aside0 (0 ≤ xq ∧ xq + nq = t2.length) ∧ Aside0 ((maxP (delivP (t2.drop xq.toNat) bs rq).1 t1, ([] : List Int), ([] : List Int), (delivP (t2.drop xq.toNat) bs rq).2, (0 : Int)) = (r1, r2, r3, r4, r5)) ∧ Aside0 ((bs.length : Int) ≤ 100000 + xq ∧ 0 ≤ rq ∧ rq ≤ 999000 + xq) ∧ Aside0 (w'.heap[g3]? = some (.cells #[.int .i64 t1, .slice A1 t2.length c1, vb] 24 (0, 0))) ∧ Aside0 (w'.heap[g6]? = some (.cells #[.int .i64 0, .slice none 0 0, .slice none 0 0] 24 (0, 0))) ∧ Aside0 (Kd.R (Kd.int .i64) 3 w' w.heap.size (fun k_ => some k_ ≠ (vb : Value).ownBlock) (.slice A1 t2.length c1) t2) ∧ Aside0 (Kd.R (Kd.int .i64) 3 w' w.heap.size (fun k_ => some k_ ≠ (.slice A1 t2.length c1 : Value).ownBlock) vb bs) ∧ Aside0 (Below w.heap.size w w')) t2.length ?_ rfl ?_
        · intro a0 ha0
          refine ⟨0, a2, t3, .slice A2 t3.length c2, fun i_ => a0.tmps.getD i_ undef, by rw [ha0]; rfl, ⟨by omega, by omega⟩, ⟨by simpa using HH2.out⟩, ⟨by have := HTL.out; have := HLEN.out; omega, by have := of_decide_eq_false c2b; omega, by have := of_decide_eq_false c3b; omega⟩, ⟨?_⟩, ⟨?_⟩, ⟨?_⟩, ⟨?_⟩, ⟨?_⟩⟩
          · exact blk_put (cs := #[.int .i64 t1, .slice A1 t2.length c1, .slice A0_2 l0_2.length c0_2]) (blk_put (cs := #[.int .i64 t1, .slice A0_1 l0_1.length c0_1, .slice A0_2 l0_2.length c0_2]) (blk_put BK3.out 0 _ rfl) 1 _ rfl) 2 _ rfl
          · exact blk_far (blk_far (blk_far BK6.out NE.out.symm _) NE.out.symm _) NE.out.symm _
          · exact Kd.R_mono (Kd.R_far (p := ⟨g3, 2, none⟩) (Kd.R_far (p := ⟨g3, 1, none⟩) (Kd.R_far (p := ⟨g3, 0, none⟩) (Kd.R_types HO1.out BK3.out (by decide)) (fun _ hk => hk.2) (.int .i64 t1)) (fun _ hk => hk.2) (.slice A1 t2.length c1)) (fun _ hk => hk.2) (.slice A2 t3.length c2)) (fun _ hk => hk.1)
          · exact Kd.R_mono (Kd.R_far (p := ⟨g3, 2, none⟩) (Kd.R_far (p := ⟨g3, 1, none⟩) (Kd.R_far (p := ⟨g3, 0, none⟩) (Kd.R_types HO2.out BK3.out (by decide)) (fun _ hk => hk.2) (.int .i64 t1)) (fun _ hk => hk.2) (.slice A1 t2.length c1)) (fun _ hk => hk.2) (.slice A2 t3.length c2)) (fun _ hk => hk.1)
          · repeat (first | (with_reducible first | exact HB.out | refine below_set ?_ GE3.out | refine below_set ?_ GE6.out) | exact HB.out)
        · clear HT BK3 BK6 HO1 HO2 HB HH2 hcz_0 hcz_1 hcz_2 hdz_0 hdz_1 hdz_2 hgz_0 hgz_1 hgz_2 hfz_0 hfz_1 hfz_2
          clear hK K
          rintro nq a' wr ⟨xq, rq, bs, vb, fq, rfl, HX, HE, HL, BK3, BK6, HO1, HO2, HB⟩ J hJ
          obtain ⟨A3, c3, e3⟩ := Kd.R_slice HO2.out
          subst e3
          have hx0 : 0 ≤ xq := HX.out.1
          have hlen2 : (t2.length : Int) ≤ 101000 := by have := HTL.out; have := HLEN.out; omega
          have hcz_0 : wr.cell? ⟨g3, 0, none⟩ = some (.int .i64 t1) := (blk_cell BK3.out 0).trans rfl
          have hcz_1 : wr.cell? ⟨g3, 1, none⟩ = some (.slice A1 t2.length c1) := (blk_cell BK3.out 1).trans rfl
          have hcz_2 : wr.cell? ⟨g3, 2, none⟩ = some (.slice A3 bs.length c3) := (blk_cell BK3.out 2).trans rfl
          have hfz_0 := blk_frozen BK3.out 0
          have hfz_1 := blk_frozen BK3.out 1
          have hfz_2 := blk_frozen BK3.out 2
          by_cases hx1 : xq < (t2.length : Int)
          · obtain ⟨ad, ead, hx⟩ := Kd.at_int (Kd.R_reads' HO1.out).2.2 xq hx0 hx1
            cases ead
            have hacc : channel_accept.f (rd t2 xq) rq = some (acceptP (rd t2 xq) rq) := by
              have := HL.out
              unfold channel_accept.f acceptP
              rw [wrapS (rq + 1) (by omega) (by omega)]
              split <;> rfl
            have HAC := Aside0.mk hacc
            clear hacc
            have c5b : decide (xq < (t2.length : Int)) = true := decide_eq_true hx1
            obtain ⟨rr, hrr⟩ : ∃ rr, acceptP (rd t2 xq) rq = rr := ⟨_, rfl⟩
            rw [hrr] at HAC
            have HRR := Aside0.mk hrr
            clear hrr
            go_wp2_with (first | ((with_reducible refine gate_callee (f := 28) rfl ?_); refine goesL_ (some 41) rfl rfl Try.func28 (by kernel_rfl) rfl #[.int .i64 (rd t2 xq), .int .i64 rq] rfl (by (try simp only [List.map_toArray, List.map_cons, List.map_nil]); first | done | rfl) ?_; (with_reducible refine (channel_accept.calls (rd t2 xq) rq rr _ HAC.out).mono ?_); rintro e w' ⟨rfl, ⟨nd, rfl⟩⟩; refine ⟨_, rfl, ?_⟩) | ((with_reducible refine gate_builtin (b := .append) (xs := #[.tmp 43, .tmp 45]) rfl ?_); at_builtin; refine Kd.R_append (Kd.int .i64) (w0 := w) w.heap.size rfl (.tmp 43) (.tmp 45) 22 3 (.int .i64 0) 8 rfl Try.underlying22 info3 rfl (by decide) (by omega) (.slice A3 bs.length c3) bs rr [.int .i64 rr] (fun k_ => some k_ ≠ (.slice (some ad) t2.length c1 : Value).ownBlock) (fun _ => False) rfl rfl ?aP (fun _ hk => hk.elim) ?aF ?aO ?aB ?aS ?aL ?_; (case aP => exact rfl); (case aB => exact (by exact pB HB.out)); (case aF => exact (fun k_ hk => Kd.fresh' (Kd.R_lt (by exact pR HO1.out)) k_ hk)); (case aO => exact (by exact pR HO2.out)); (case aS => exact (below_size (by exact pB HB.out))); (case aL => have := HL.out; omega); intro v7 w7 ho hb hg hat; have n0_ := Aside0.mk (Kd.R_after (ok := (fun _ => True)) (by exact pR (Kd.R_mono HO1.out (fun _ hk => ⟨trivial, hk⟩))) hg hat); have n1_ := Aside0.mk (blk_grown (g := g3) (o := .cells #[.int .i64 t1, .slice (some ad) t2.length c1, .slice A3 bs.length c3] 24 (0, 0)) (by exact pK BK3.out) hg (Kd.R_ne HO2.out BK3.out (by decide))); have n2_ := Aside0.mk (blk_grown (g := g6) (o := .cells #[.int .i64 0, .slice none 0 0, .slice none 0 0] 24 (0, 0)) (by exact pK BK6.out) hg (Kd.R_ne HO2.out BK6.out (by decide))); have n3_ := Aside0.mk (hb); have n4_ := Aside0.mk (ho); clear HO1; clear BK3; clear BK6; clear HB; clear HO2; have HO1 := n0_; have BK3 := n1_; have BK6 := n2_; have HB := n3_; have HO2 := n4_; clear n0_ n1_ n2_ n3_ n4_; clear ho hb hg hat; obtain ⟨A7, c7, e7⟩ := Kd.R_slice HO2.out; subst e7; have hdz_2 : w7.cell? ⟨g3, 2, none⟩ = some (.slice A3 bs.length c3) := (blk_cell BK3.out 2).trans rfl; have hez_2 := blk_frozen BK3.out 2))
            go_step3
            have el : bs.length + 1 = (bs ++ [rr]).length := by simp
            rw [el]
            refine ⟨rfl, hJ (nq - 1) _ _ (by have := HX.out; omega) ?_⟩
            intro a0 ha0
            have hst := deliv_step t2 xq bs rq hx0 hx1
            rw [HRR.out] at hst
            have hacr := accept_range (rd t2 xq) rq
            rw [HRR.out] at hacr
            refine ⟨xq + 1, rr, bs ++ [rr], .slice A7 (bs ++ [rr]).length c7, fun i_ => a0.tmps.getD i_ undef, by rw [ha0]; rfl, ⟨by omega, by have := HX.out; omega⟩, ⟨by rw [← hst]; exact HE.out⟩, ⟨by simp only [List.length_append, List.length_singleton]; have := HL.out; omega, by have := HL.out; omega, by have := HL.out; omega⟩, ⟨?_⟩, ⟨?_⟩, ⟨?_⟩, ⟨?_⟩, ⟨?_⟩⟩
            · exact blk_put (cs := #[.int .i64 t1, .slice (some ad) t2.length c1, .slice A3 bs.length c3]) BK3.out 2 _ rfl
            · exact blk_far BK6.out NE.out.symm _
            · exact Kd.R_mono (Kd.R_far (p := ⟨g3, 2, none⟩) (Kd.R_types HO1.out BK3.out (by decide)) (fun _ hk => hk.2) _) (fun _ hk => hk.1.2)
            · exact Kd.R_mono (Kd.R_far (p := ⟨g3, 2, none⟩) (Kd.R_types HO2.out BK3.out (by decide)) (fun _ hk => hk.2) _) (fun _ hk => hk.1)
            · repeat (first | (with_reducible first | exact HB.out | refine below_set ?_ GE3.out | refine below_set ?_ GE6.out) | exact HB.out)
          · have hdr : t2.drop xq.toNat = [] := List.drop_eq_nil_of_le (by omega)
            have he := HE.out
            rw [hdr] at he
            simp only [delivP, Prod.mk.injEq] at he
            obtain ⟨hr1, rfl, rfl, rfl, rfl⟩ := he
            have HM := Aside0.mk hr1
            have c5b : decide (xq < (t2.length : Int)) = false := decide_eq_false hx1
            clear hr1 hdr HE hJ
            have hlen3 : (bs.length : Int) ≤ 300000 := by have := HL.out; have := HX.out; omega
            have HJ0 := Aside0.mk (show maxP (bs.drop (0 : Int).toNat) t1 = maxP bs t1 by simp)
            go_wp2
            go_loopg [53] bs.length (fun kq v53 w' => ∃ (jq acc : Int), v53 = .int .i64 jq ∧ Aside0 (0 ≤ jq ∧ jq + kq = bs.length) ∧ Aside0 (maxP (bs.drop jq.toNat) acc = maxP bs t1) ∧ Aside0 (w'.heap[g3]? = some (.cells #[.int .i64 acc, .slice A1 t2.length c1, .slice A3 bs.length c3] 24 (0, 0))) ∧ Aside0 (w'.heap[g6]? = some (.cells #[.int .i64 0, .slice none 0 0, .slice none 0 0] 24 (0, 0))) ∧ Aside0 (Kd.R (Kd.int .i64) 3 w' w.heap.size (fun k_ => some k_ ≠ (.slice A1 t2.length c1 : Value).ownBlock) (.slice A3 bs.length c3) bs) ∧ Aside0 (Below w.heap.size w w'))
            case atStart => exact ⟨0, t1, rfl, ⟨by omega, by omega⟩, HJ0, BK3, BK6, HO2, HB⟩
            case round =>
              clear BK3 BK6 HO1 HO2 HB HJ0 hcz_0 hcz_1 hcz_2 hfz_0 hfz_1 hfz_2 c5b HX HL
              obtain ⟨jq, acc, rfl, HX, HE, BK3, BK6, HO2, HB⟩ := hrel
              have hj0 : 0 ≤ jq := HX.out.1
              have hcz_0 : wr.cell? ⟨g3, 0, none⟩ = some (.int .i64 acc) := (blk_cell BK3.out 0).trans rfl
              have hfz_0 := blk_frozen BK3.out 0
              by_cases hj1 : jq < (bs.length : Int)
              · obtain ⟨ad, ead, hx⟩ := Kd.at_int (Kd.R_reads' HO2.out).2.2 jq hj0 hj1
                cases ead
                have c6b : decide (jq < (bs.length : Int)) = true := decide_eq_true hj1
                have hst := max_step bs jq acc hj0 hj1
                rw [HE.out] at hst
                have HST := Aside0.mk hst
                clear hst
                have HMA := Aside0.mk (show acc < rd bs jq → mx acc (rd bs jq) = rd bs jq from fun h_ => if_pos h_)
                have HMB := Aside0.mk (show ¬ acc < rd bs jq → mx acc (rd bs jq) = acc from fun h_ => if_neg h_)
                go_wp2
                all_goals go_roundg (gk - 1)
                all_goals first | (have := HX.out; omega) | skip
                all_goals exact ⟨jq + 1, mx acc (rd bs jq), rfl, ⟨by omega, by have := HX.out; omega⟩, ⟨HST.out.symm⟩, ⟨blk_put (cs := #[.int .i64 acc, .slice A1 t2.length c1, .slice (some ad) bs.length c3]) BK3.out 0 _ (by first | (rw [HMA.out (by omega)]; rfl) | (rw [HMB.out (by omega)]; rfl))⟩, ⟨blk_far BK6.out NE.out.symm _⟩, ⟨Kd.R_mono (Kd.R_far (p := ⟨g3, 0, none⟩) (Kd.R_types HO2.out BK3.out (by decide)) (fun _ hk => hk.2) _) (fun _ hk => hk.1)⟩, ⟨by repeat (first | (with_reducible first | exact HB.out | refine below_set ?_ GE3.out | refine below_set ?_ GE6.out) | exact HB.out)⟩⟩
              · have hdr : bs.drop jq.toNat = [] := List.drop_eq_nil_of_le (by omega)
                have he := HE.out
                rw [hdr] at he
                have hm : acc = maxP bs t1 := he
                have HM2 := Aside0.mk hm
                have c6b : decide (jq < (bs.length : Int)) = false := decide_eq_false hj1
                have hdz_0 : wr.cell? ⟨g6, 0, none⟩ = some (.int .i64 0) := (blk_cell BK6.out 0).trans rfl
                have hdz_1 : wr.cell? ⟨g6, 1, none⟩ = some (.slice none 0 0) := (blk_cell BK6.out 1).trans rfl
                have hdz_2 : wr.cell? ⟨g6, 2, none⟩ = some (.slice none 0 0) := (blk_cell BK6.out 2).trans rfl
                have hgz_0 := blk_frozen BK6.out 0
                have hgz_1 := blk_frozen BK6.out 1
                have hgz_2 := blk_frozen BK6.out 2
                clear hdr he hm HE
                go_wp2
                rw [Exit.jump_ret]
                refine bodyPost_ret (results_ctt rfl _ _ g6 24 #[.int .i64 acc, .slice none 0 0, .slice none 0 0] (0, 0) _ rfl (by (with_reducible repeat (first | refine blk_drewN ?_ _ | refine blk_drew ?_ | refine blk_alloc ?_ _)); refine blk_put (cs := #[.int .i64 acc, .slice none 0 0, .slice none 0 0]) ?_ 2 _ rfl; refine blk_put (cs := #[.int .i64 acc, .slice none 0 0, .slice none 0 0]) ?_ 1 _ rfl; refine blk_put (cs := #[.int .i64 0, .slice none 0 0, .slice none 0 0]) ?_ 0 _ rfl; exact BK6.out) Try.underlying24 rfl (by kernel_rfl)) rfl ?_
                exact ⟨_, _, by rw [HM.out.symm, ← HM2.out]; rfl, Kd.R_nil _ _ _ _ _, Kd.R_nil _ _ _ _ _, by repeat (first | (with_reducible first | exact HB.out | apply below_alloc | apply pw_below_drewN | apply below_drew1 | refine below_set ?_ GE3.out | refine below_set ?_ GE6.out) | exact HB.out)⟩
  · have hh := HH.out
    unfold flushP at hh
    rw [if_neg c1] at hh
    simp only [Prod.mk.injEq] at hh
    obtain ⟨rfl, rfl, rfl, rfl, rfl⟩ := hh
    have c1b : (t4 != 0) = true := bne_iff_ne.mpr c1
    have c1c : (t4 == 0) = false := beq_eq_false_iff_ne.mpr c1
    clear HH c1
    go_wp2_with (first | ((with_reducible refine gate_callee (f := 13) rfl ?_); refine goesL_ (some 16) rfl rfl Try.func13 (by kernel_rfl) rfl #[.agg #[.int .i64 a0_0, .slice A0_1 l0_1.length c0_1, .slice A0_2 l0_2.length c0_2], .int .i64 a1] rfl (by (try simp only [List.map_toArray, List.map_cons, List.map_nil]); first | done | rfl) ?_; (with_reducible refine (channel_Transmit.calls 1003 a0_0 _ _ l0_1 _ _ l0_2 a1 t1 t2 t3 t4 _ ?side1 ?side2 ?side3 ?side4 HT.out).mono ?_); (case side1 => exact (Kd.C_below HR0_1.out HB.out)); (case side2 => exact HC0_1.out); (case side3 => exact (Kd.C_below HR0_2.out HB.out)); (case side4 => exact HC0_2.out); rintro e w6 ⟨v1, v2, rfl, ho1, ho2, hb⟩; refine ⟨_, rfl, ?_⟩; obtain ⟨A1, c1, e1⟩ := Kd.R_slice ho1; subst e1; obtain ⟨A2, c2, e2⟩ := Kd.R_slice ho2; subst e2; have n0_ := Aside0.mk (blk_below BK3.out hb); have n1_ := Aside0.mk (blk_below BK6.out hb); have n2_ := Aside0.mk (below_step HB.out hb); have HO1 := Aside0.mk (Kd.R_lower ho1 HB.out.size); have HO2 := Aside0.mk (Kd.R_lower ho2 HB.out.size); clear BK3 BK6 HB hcz_0 hcz_1 hcz_2 hb ho1 ho2; have BK3 := n0_; have BK6 := n1_; have HB := n2_; clear n0_ n1_ n2_; have hcz_0 : w6.cell? ⟨g3, 0, none⟩ = some (.int .i64 a0_0) := (blk_cell BK3.out 0).trans rfl; have hcz_1 : w6.cell? ⟨g3, 1, none⟩ = some (.slice A0_1 l0_1.length c0_1) := (blk_cell BK3.out 1).trans rfl; have hcz_2 : w6.cell? ⟨g3, 2, none⟩ = some (.slice A0_2 l0_2.length c0_2) := (blk_cell BK3.out 2).trans rfl; have hnb := NE.out; have hnc := NE.out.symm; have hdz_0 : w6.cell? ⟨g6, 0, none⟩ = some (.int .i64 0) := (blk_cell BK6.out 0).trans rfl; have hdz_1 : w6.cell? ⟨g6, 1, none⟩ = some (.slice none 0 0) := (blk_cell BK6.out 1).trans rfl; have hdz_2 : w6.cell? ⟨g6, 2, none⟩ = some (.slice none 0 0) := (blk_cell BK6.out 2).trans rfl; have hgz_0 := blk_frozen BK6.out 0; have hgz_1 := blk_frozen BK6.out 1; have hgz_2 := blk_frozen BK6.out 2; have hfz_0 := blk_frozen BK3.out 0; have hfz_1 := blk_frozen BK3.out 1; have hfz_2 := blk_frozen BK3.out 2))
    rw [Exit.jump_ret]
    refine bodyPost_ret (results_ctt rfl _ _ g6 24 #[.int .i64 0, .slice none 0 0, .slice none 0 0] (0, 0) _ rfl (by (with_reducible repeat (first | refine blk_drewN ?_ _ | refine blk_drew ?_ | refine blk_alloc ?_ _)); refine blk_put (cs := #[.int .i64 0, .slice none 0 0, .slice none 0 0]) ?_ 2 _ rfl; refine blk_put (cs := #[.int .i64 0, .slice none 0 0, .slice none 0 0]) ?_ 1 _ rfl; refine blk_put (cs := #[.int .i64 0, .slice none 0 0, .slice none 0 0]) ?_ 0 _ rfl; refine blk_far ?_ NE.out.symm _; refine blk_far ?_ NE.out.symm _; refine blk_far ?_ NE.out.symm _; exact BK6.out) Try.underlying24 rfl (by kernel_rfl)) rfl ?_
    exact ⟨_, _, rfl, Kd.R_nil _ _ _ _ _, Kd.R_nil _ _ _ _ _, by repeat (first | (with_reducible first | exact HB.out | apply below_alloc | apply pw_below_drewN | apply below_drew1 | refine below_set ?_ GE3.out | refine below_set ?_ GE6.out) | exact HB.out)⟩
end Go.Proofs.Ytlhmgigjbeefbaa.XFlush

