/-
  The contract of customslaw38.play: the walk itself. Condition: the list's own reading alone.
-/
import Derived.Test.YtlhmgigjbeefbaaXPlay
namespace Go.Proofs.Ytlhmgigjbeefbaa.XPlayWalk
set_option linter.unusedVariables false
set_option linter.unusedSimpArgs false
open Go.RowKit Go.Proofs.Ytlhmgigjbeefbaa.PChannelSteps Go.Proofs.Ytlhmgigjbeefbaa.PureLine Go.Proofs.Ytlhmgigjbeefbaa.XSource Go.Proofs.Ytlhmgigjbeefbaa.XPlay Go.Proofs.YtlhmgigjbeefbaaW.PrintWords Go.Proofs.YtlhmgigjbeefbaaW.PrintLast Go.Proofs.YtlhmgigjbeefbaaW.PrintMore
attribute [local go_sem] max2_int min2_int max_two min_two max_three min_three max_four min_four


section
variable {W w' : World} {base g gS : Nat} {v : Value} {xs : List Int} {cs : Array Value}
theorem R_next (h : Kd.R (Kd.int .i64) 3 W base (fun _ => True) v xs) (BS : W.heap[gS]? = some (.cells cs 43 (0, 0))) (kb : KeepBut W w' gS none) : Kd.R (Kd.int .i64) 3 w' base (fun _ => True) v xs :=
  Kd.R_mono (Kd.R_keep (Kd.R_types h BS (by decide)) kb (fun _ hk => hk.2)) (fun _ hk => hk.1)
theorem R_put3 (h : Kd.R (Kd.int .i64) 3 W base (fun _ => True) v xs) (B : W.heap[g]? = some (.cells cs 24 (0, 0))) (a b c : Value) :
    Kd.R (Kd.int .i64) 3 (((W.setCell ⟨g, 0, none⟩ a).setCell ⟨g, 1, none⟩ b).setCell ⟨g, 2, none⟩ c) base (fun _ => True) v xs :=
  Kd.R_mono (Kd.R_far (p := ⟨g, 2, none⟩) (Kd.R_far (p := ⟨g, 1, none⟩) (Kd.R_far (p := ⟨g, 0, none⟩) (Kd.R_types h B (by decide)) (fun _ hk => hk.2) a) (fun _ hk => hk.2) b) (fun _ hk => hk.2) c) (fun _ hk => hk.1)
theorem blk_far3 {t : TypeId} {k : Nat} (h : W.heap[k]? = some (.cells cs t (0, 0))) (hne : k ≠ g) (a b c : Value) :
    (((W.setCell ⟨g, 0, none⟩ a).setCell ⟨g, 1, none⟩ b).setCell ⟨g, 2, none⟩ c).heap[k]? = some (.cells cs t (0, 0)) := blk_far (blk_far (blk_far h hne _) hne _) hne _
theorem blk_put3 {t : TypeId} {x y z : Value} (h : W.heap[g]? = some (.cells #[x, y, z] t (0, 0))) (a b c : Value) :
    (((W.setCell ⟨g, 0, none⟩ a).setCell ⟨g, 1, none⟩ b).setCell ⟨g, 2, none⟩ c).heap[g]? = some (.cells #[a, b, c] t (0, 0)) :=
  blk_put (cs := #[a, b, z]) (blk_put (cs := #[a, y, z]) (blk_put (cs := #[x, y, z]) h 0 _ rfl) 1 _ rfl) 2 _ rfl
theorem below_put3 {w : World} (h : Below w.heap.size w W) (hg : w.heap.size ≤ g) (a b c : Value) :
    Below w.heap.size w (((W.setCell ⟨g, 0, none⟩ a).setCell ⟨g, 1, none⟩ b).setCell ⟨g, 2, none⟩ c) := below_set (below_set (below_set h hg) hg) hg
end

theorem runP_step (L : List Int) (k : Nat) (st : St) (r : St × Bool) (hi : st.i < (L.length : Int)) (h : runP L (k + 1) st = r) :
    (if (stepP L st).a > (stepP L st).r then (stepP L st, false) else if (stepP L st).r > (stepP L st).s then (stepP L st, false) else runP L k (stepP L st)) = r := by
  rw [← h]
  show _ = (if st.i < (L.length : Int) then _ else _)
  rw [if_pos hi]
theorem runP_end (L : List Int) (k : Nat) (st : St) (r : St × Bool) (hi : ¬ st.i < (L.length : Int)) (h : runP L (k + 1) st = r) : (st, true) = r := by
  rw [← h]
  show _ = (if st.i < (L.length : Int) then _ else _)
  rw [if_neg hi]

theorem results_cttt {P : Program} {fn : Func} {p u v z : Tmp} {ty : TypeId} (h : fn.results = #[.cell p ty, .tmp u, .tmp v, .tmp z]) (tmps : Array Value) (w : World) (g : Nat) (t : TypeId) (cs : Array Value) (fr : Nat × Nat) (d : TypeDesc)
    (hp : tmps.getD p undef = .pointer (some ⟨g, 0, none⟩)) (hg : w.heap[g]? = some (.cells cs t fr))
    (hu : P.underlying ty = some d) (hd : (match d with | .struct _ | .array _ _ => true | _ => false) = true) (hi : (P.info? ty).map (·.size) = some cs.size) :
    (results fn tmps).run P w = .ok (.tuple #[.agg cs, tmps.getD u undef, tmps.getD v undef, tmps.getD z undef]) w := by
  have hp' : tmps[p]?.getD undef = .pointer (some ⟨g, 0, none⟩) := by simpa using hp
  simp [results, h, hp', asAddr, run_loadVar_row w g t ty cs fr d hg hu hd hi]

def q0 : St := ⟨0, 0, 0, 0, [], []⟩

set_option maxHeartbeats 8000000 in
set_option maxRecDepth 100000 in
theorem play_calls (A : Option Addr) (c : Nat) (l : List Int) (w : World) (hr : Kd.C (Kd.int .i64) w A l.length l) (hc : l.length ≤ c) (q : St) (ok : Bool) (h : runP (l.take 120) 121 q0 = (q, ok)) :
    Calls Try.prog 11 #[.slice A l.length c] w fun e w' => ∃ v1_ v2_ : Value, e = .returned (.tuple #[.agg #[.int .i64 q.a, v1_, v2_], .int .i64 q.s, .int .i64 q.r, .bool ok]) ∧ Kd.R (Kd.int .i64) 3 w' w.heap.size (fun _ => True) v1_ q.ws ∧ Kd.R (Kd.int .i64) 3 w' w.heap.size (fun _ => True) v2_ q.bs ∧ Below w.heap.size w w' := by
  have hu24 := Try.underlying24
  have hu43 := Try.underlying43
  obtain ⟨L, hL⟩ : ∃ L, l.take 120 = L := ⟨_, rfl⟩
  have hlen : L.length ≤ 120 := by rw [← hL, List.length_take]; omega
  have hrL : Kd.C (Kd.int .i64) w A L.length L := by
    rw [← hL]
    by_cases h1 : 120 ≤ l.length
    · exact Kd.C_take hr h1
    · rw [List.take_of_length_le (by omega)]
      exact hr
  rw [hL] at h
  have HLT := Aside0.mk (show l.take (120 : Int).toNat = L from hL)
  have HR := Aside0.mk hrL
  have HC := Aside0.mk hc
  have HH := Aside0.mk h
  have HLEN := Aside0.mk hlen
  have HF := Aside0.mk (show 0 < L.length → ∀ ad, A = some ad → ad.block < w.heap.size from by
    intro hpos ad ead
    obtain ⟨ad', e', hx⟩ := Kd.at_int hrL 0 (Int.le_refl _) (by omega)
    have : ad' = ad := by rw [ead] at e'; exact (Option.some.inj e').symm
    subst this
    have := World.block_lt_of_cell? _ _ hx
    rwa [add_block] at this)
  clear hr hrL hc h hlen hL
  have HB := Aside0.mk (Below.refl w.heap.size w)
  go_enter Try.func11, Try.ntmps11
  go_wp2_with (first | ((with_reducible refine gate_dst (N := 2) rfl ?_); refine box_event ?hg (N := 2) ?hd (cs := #[.int .i64 0, .slice none 0 0, .slice none 0 0]) (t := 24) ?hr ?_; (case hd => rfl); (case hg => rfl); (case hr => first | (go_simp; done) | (go_simp; rfl)); intro g2 hg w1 hbox hb; have n0_ := Aside0.mk (below_step HB.out hb); have BK2 := Aside0.mk hbox; have GE2 := Aside0.mk (show w.heap.size ≤ g2 by rw [hg]; exact HB.out.size); clear HB; have HB := n0_; clear n0_ hb hbox hg) | ((with_reducible refine gate_dst (N := 6) rfl ?_); refine box_event ?hg (N := 6) ?hd (cs := #[.int .i64 0, .slice none 0 0, .slice none 0 0]) (t := 24) ?hr ?_; (case hd => rfl); (case hg => rfl); (case hr => first | (go_simp; done) | (go_simp; rfl)); intro g6 hg w2 hbox hb; have n0_ := Aside0.mk (below_step HB.out hb); have n1_ := Aside0.mk (blk_below BK2.out hb); have BK6 := Aside0.mk hbox; have GE6 := Aside0.mk (show w.heap.size ≤ g6 by rw [hg]; exact HB.out.size); have NE26 := Aside0.mk (show g2 ≠ g6 by rw [hg]; exact Nat.ne_of_lt (blk_lt BK2.out)); clear HB BK2; have HB := n0_; have BK2 := n1_; clear n0_ n1_ hb hbox hg) | ((with_reducible refine gate_callee (f := 29) rfl ?_); refine goesL_ (some 14) rfl rfl Try.func29 (by kernel_rfl) rfl #[.slice A l.length c, .int .i64 120] rfl (by (try simp only [List.map_toArray, List.map_cons, List.map_nil]); first | done | rfl) ?_; (with_reducible refine (cut_calls A c l 120 _ (by omega) (by omega) HC.out).mono ?_); rintro e w' ⟨rfl, ⟨nd, rfl⟩⟩; refine ⟨_, rfl, ?_⟩) | ((with_reducible refine gate_dst (N := 16) rfl ?_); refine box_event ?hg (N := 16) ?hd (cs := #[.slice A (l.take (120 : Int).toNat).length c, .int .i64 0]) (t := 43) ?hr ?_; (case hd => rfl); (case hg => rfl); (case hr => first | (go_simp; done) | (go_simp; rfl)); intro gS hg w3 hbox hb; have n0_ := Aside0.mk (below_step (pB HB.out) hb); have n1_ := Aside0.mk (blk_below (pK BK2.out) hb); have n2_ := Aside0.mk (blk_below (pK BK6.out) hb); have BS := Aside0.mk hbox; have GES := Aside0.mk (show w.heap.size ≤ gS by rw [hg]; exact HB.out.size); have NE2S := Aside0.mk (show g2 ≠ gS by rw [hg]; exact Nat.ne_of_lt (blk_lt BK2.out)); have NE6S := Aside0.mk (show g6 ≠ gS by rw [hg]; exact Nat.ne_of_lt (blk_lt BK6.out)); clear HB BK2 BK6; have HB := n0_; have BK2 := n1_; have BK6 := n2_; clear n0_ n1_ n2_ hb hbox hg))
  rw [HLT.out] at BS
  go_loopg [7, 8] 121 (fun kq v7 v8 w' => ∃ (st : St) (ux1 ux2 : Value), v7 = .int .i64 st.s ∧ v8 = .int .i64 st.r ∧ Aside0 (Inv L st) ∧ Aside0 (runP L kq st = (q, ok)) ∧ Aside0 ((L.length : Int) < st.i + kq) ∧ Aside0 (w'.heap[gS]? = some (.cells #[.slice A L.length c, .int .i64 st.i] 43 (0, 0))) ∧ Aside0 (w'.heap[g6]? = some (.cells #[.int .i64 st.a, ux1, ux2] 24 (0, 0))) ∧ Aside0 (w'.heap[g2]? = some (.cells #[.int .i64 0, .slice none 0 0, .slice none 0 0] 24 (0, 0))) ∧ Aside0 (Kd.R (Kd.int .i64) 3 w' w.heap.size (fun _ => True) ux1 st.ws) ∧ Aside0 (Kd.R (Kd.int .i64) 3 w' w.heap.size (fun _ => True) ux2 st.bs) ∧ Aside0 (Below w.heap.size w w'))
  case atStart => exact ⟨q0, .slice none 0 0, .slice none 0 0, rfl, rfl, ⟨⟨by decide, by show (0 : Int) ≤ _; omega, by decide, by decide, by decide, by decide, by decide, by decide⟩⟩, HH, ⟨by have := HLEN.out; show (L.length : Int) < 0 + _; omega⟩, BS, BK6, BK2, ⟨Kd.R_nil _ _ _ _ _⟩, ⟨Kd.R_nil _ _ _ _ _⟩, HB⟩
  case round =>
    clear BS BK6 BK2 HB HH
    obtain ⟨st, ux1, ux2, rfl, rfl, HI, HRun, HK, BS, B6, B2, X1, X2, HB⟩ := hrel
    obtain ⟨Ax1, cx1, e1⟩ := Kd.R_slice X1.out
    subst e1
    obtain ⟨Ax2, cx2, e2⟩ := Kd.R_slice X2.out
    subst e2
    have hcz_0 : wr.cell? ⟨g6, 0, none⟩ = some (.int .i64 st.a) := (blk_cell B6.out 0).trans rfl
    have hcz_1 : wr.cell? ⟨g6, 1, none⟩ = some (.slice Ax1 st.ws.length cx1) := (blk_cell B6.out 1).trans rfl
    have hcz_2 : wr.cell? ⟨g6, 2, none⟩ = some (.slice Ax2 st.bs.length cx2) := (blk_cell B6.out 2).trans rfl
    obtain ⟨k, rfl⟩ : ∃ k, gk = k + 1 := ⟨gk - 1, by have := HK.out; have := HI.out.i1; omega⟩
    by_cases hi : st.i < (L.length : Int)
    · have HSt := Aside0.mk (runP_step L k st _ hi HRun.out)
      have hib : decide (st.i < (L.length : Int)) = true := decide_eq_true hi
      have HIL := Aside0.mk hi
      clear hi HRun
      go_upto_block 2 with (first | ((with_reducible refine gate_callee (f := 30) rfl ?_); refine goesL_ (some 18) rfl rfl Try.func30 (by kernel_rfl) rfl #[.pointer (some ⟨gS, 0, none⟩)] rfl (by (try simp only [List.map_toArray, List.map_cons, List.map_nil]); first | done | rfl) ?_; (with_reducible refine (left_is gS A L.length c st.i true _ hib ?s0 ?s1).mono ?_); (case s0 => exact (blk_cell BS.out 0).trans rfl); (case s1 => exact (blk_cell BS.out 1).trans rfl); rintro e w' ⟨rfl, ⟨nd, rfl⟩⟩; refine ⟨_, rfl, ?_⟩) | ((with_reducible refine gate_dst (N := 10) rfl ?_); refine box_event ?hg (N := 10) ?hd (cs := #[.int .i64 0, .slice none 0 0, .slice none 0 0]) (t := 24) ?hr ?_; (case hd => rfl); (case hg => rfl); (case hr => first | (go_simp; done) | (go_simp; rfl)); intro g10 hg w5 hbox hb; have n0_ := Aside0.mk (below_step (pB HB.out) hb); have n1_ := Aside0.mk (blk_below (pK B2.out) hb); have n2_ := Aside0.mk (blk_below (pK B6.out) hb); have n3_ := Aside0.mk (blk_below (pK BS.out) hb); have n4_ := Aside0.mk (Kd.R_below (pR X1.out) hb); have n5_ := Aside0.mk (Kd.R_below (pR X2.out) hb); have B10 := Aside0.mk hbox; have GE10 := Aside0.mk (show w.heap.size ≤ g10 by rw [hg]; exact HB.out.size); have NE2 := Aside0.mk (show g2 ≠ g10 by rw [hg]; exact Nat.ne_of_lt (blk_lt B2.out)); have NE6 := Aside0.mk (show g6 ≠ g10 by rw [hg]; exact Nat.ne_of_lt (blk_lt B6.out)); have NES := Aside0.mk (show gS ≠ g10 by rw [hg]; exact Nat.ne_of_lt (blk_lt BS.out)); clear HB B2 B6 BS X1 X2 hcz_0 hcz_1 hcz_2; have HB := n0_; have B2 := n1_; have B6 := n2_; have BS := n3_; have X1 := n4_; have X2 := n5_; clear n0_ n1_ n2_ n3_ n4_ n5_ hb hbox hg; have hdz_0 : w5.cell? ⟨g10, 0, none⟩ = some (.int .i64 0) := (blk_cell B10.out 0).trans rfl; have hdz_1 : w5.cell? ⟨g10, 1, none⟩ = some (.slice none 0 0) := (blk_cell B10.out 1).trans rfl; have hdz_2 : w5.cell? ⟨g10, 2, none⟩ = some (.slice none 0 0) := (blk_cell B10.out 2).trans rfl; have hgz_0 := blk_frozen B10.out 0; have hgz_1 := blk_frozen B10.out 1; have hgz_2 := blk_frozen B10.out 2) | ((with_reducible refine gate_callee (f := 31) rfl ?_); refine goesL_ (some 21) rfl rfl Try.func31 (by kernel_rfl) rfl #[.pointer (some ⟨gS, 0, none⟩), .int .i64 8] rfl (by (try simp only [List.map_toArray, List.map_cons, List.map_nil]); first | done | rfl) ?_; (with_reducible refine (next_any gS A c L st.i 8 _ (blk_far3 BS.out NES.out _ _ _) (Kd.C_below HR.out (below_put3 HB.out GE10.out _ _ _)) ?s1 HI.out.i0 ?s2 (by omega) (by omega)).mono ?_); (case s1 => have := HLEN.out; omega); (case s2 => exact fun h1_ ad_ e_ => Nat.ne_of_lt (Nat.lt_of_lt_of_le (HF.out h1_ ad_ e_) GES.out)); rintro e w6 ⟨rfl, bs_, kb_, hb_⟩; refine ⟨_, rfl, ?_⟩; have n0_ := Aside0.mk (hb_ w (below_put3 HB.out GE10.out _ _ _) GES.out); have n1_ := Aside0.mk (kb_.blk (blk_far3 B2.out NE2.out _ _ _) NE2S.out (by simp)); have n2_ := Aside0.mk (kb_.blk (blk_far3 B6.out NE6.out _ _ _) NE6S.out (by simp)); have n3_ := Aside0.mk bs_; have n4_ := Aside0.mk (R_next (R_put3 X1.out B10.out _ _ _) (blk_far3 BS.out NES.out _ _ _) kb_); have n5_ := Aside0.mk (R_next (R_put3 X2.out B10.out _ _ _) (blk_far3 BS.out NES.out _ _ _) kb_); have n6_ := Aside0.mk (kb_.blk (blk_put3 B10.out _ _ _) NES.out.symm (by simp)); clear HB B2 B6 BS X1 X2 B10 hdz_0 hdz_1 hdz_2 hgz_0 hgz_1 hgz_2 bs_ kb_ hb_; have HB := n0_; have B2 := n1_; have B6 := n2_; have BS := n3_; have X1 := n4_; have X2 := n5_; have B10 := n6_; clear n0_ n1_ n2_ n3_ n4_ n5_ n6_))
      (try simp only [Act.put, List.setIfInBounds_toArray, List.set_cons_zero, List.set_cons_succ])
      obtain ⟨x8, hx8⟩ : ∃ x, (nextP L st.i 8).1 = x := ⟨_, rfl⟩
      obtain ⟨i8, hi8⟩ : ∃ x, (nextP L st.i 8).2 = x := ⟨_, rfl⟩
      rw [hx8]
      rw [hi8] at BS
      have hrange := nextP_range L st.i 8 HI.out.i1 (by omega) (by omega)
      rw [hx8, hi8] at hrange
      have HX8 := Aside0.mk hrange
      obtain ⟨m, hm⟩ : ∃ m, midP L st x8 i8 = m := ⟨_, rfl⟩
      have hstep : stepP L st = endP st m := by unfold stepP; rw [hx8, hi8, hm]
      rw [hstep] at HSt
      have HStep := Aside0.mk hstep
      have HM := Aside0.mk hm
      clear hx8 hi8 hm hstep hrange
      go_cut [7, 8, 11, 12] (fun v7 v8 v11 v12 wc => ∃ (n : Int) (uy1 uy2 : Value), v7 = .int .i64 m.s ∧ v8 = .int .i64 m.r ∧ v11 = .int .i64 n ∧ v12 = .int .i64 m.e ∧ Aside0 (wc.heap[gS]? = some (.cells #[.slice A L.length c, .int .i64 m.i] 43 (0, 0))) ∧ Aside0 (wc.heap[g6]? = some (.cells #[.int .i64 st.a, .slice Ax1 st.ws.length cx1, .slice Ax2 st.bs.length cx2] 24 (0, 0))) ∧ Aside0 (wc.heap[g10]? = some (.cells #[.int .i64 m.a, uy1, uy2] 24 (0, 0))) ∧ Aside0 (wc.heap[g2]? = some (.cells #[.int .i64 0, .slice none 0 0, .slice none 0 0] 24 (0, 0))) ∧ Aside0 (Kd.R (Kd.int .i64) 3 wc w.heap.size (fun _ => True) (.slice Ax1 st.ws.length cx1) st.ws) ∧ Aside0 (Kd.R (Kd.int .i64) 3 wc w.heap.size (fun _ => True) (.slice Ax2 st.bs.length cx2) st.bs) ∧ Aside0 (Kd.R (Kd.int .i64) 3 wc w.heap.size (fun _ => True) uy1 m.ws) ∧ Aside0 (Kd.R (Kd.int .i64) 3 wc w.heap.size (fun _ => True) uy2 m.bs) ∧ Aside0 (Below w.heap.size w wc))
      case first => as_aux_lemma =>
        have hrng := HX8.out
        have HI8 := Aside0.mk (show 0 ≤ i8 by have := HI.out.i0; omega)
        have hst0 : 0 ≤ st.s := HI.out.s0
        have hst1 : st.s ≤ 120 := by have := HI.out.s1; have := HI.out.i1; have := HLEN.out; omega
        have hr0 : 0 ≤ st.r := HI.out.r0
        have hr1 : st.r ≤ 120 := by have := HI.out.r1; have := HI.out.i1; have := HLEN.out; omega
        have hm := HM.out
        clear HM HSt HK HStep
        have hcz_0 : w6.cell? ⟨g6, 0, none⟩ = some (.int .i64 st.a) := (blk_cell B6.out 0).trans rfl
        have hcz_1 : w6.cell? ⟨g6, 1, none⟩ = some (.slice Ax1 st.ws.length cx1) := (blk_cell B6.out 1).trans rfl
        have hcz_2 : w6.cell? ⟨g6, 2, none⟩ = some (.slice Ax2 st.bs.length cx2) := (blk_cell B6.out 2).trans rfl
        have hn3 := NE6.out
        have hn4 := NE6.out.symm
        have hcases : x8 = 0 ∨ x8 = 1 ∨ x8 = 2 ∨ x8 = 3 ∨ x8 = 4 ∨ x8 = 5 ∨ x8 = 6 ∨ x8 = 7 := by omega
        clear hrng HX8
        rcases hcases with rfl | rfl | rfl | rfl | rfl | rfl | rfl | rfl
        · have hm2 : m = ⟨i8, st.s + 1, st.r, 0, st.a, st.ws, st.bs⟩ := by rw [← hm]; rfl
          clear hm
          subst hm2
          go_wp2
          go_meet
          case rel => exact ⟨_, .slice Ax1 st.ws.length cx1, .slice Ax2 st.bs.length cx2, rfl, rfl, rfl, rfl, BS, B6, B10, B2, X1, X2, X1, X2, HB⟩
        · by_cases hw : (st.ws.length : Int) < 100
          · have hm2 : m = midOf i8 st.s st.r (transmitP st.a st.ws st.bs st.s) := by rw [← hm]; unfold midP; rw [if_neg (by omega), if_pos (by omega), if_pos hw]
            clear hm
            have hm := hm2
            clear hm2
            obtain ⟨⟨t1, t2, t3, t4⟩, ht⟩ : ∃ t, transmitP st.a st.ws st.bs st.s = t := ⟨_, rfl⟩
            have hT := transmit_ok st.a st.ws st.bs st.s (by unfold Fit; have := HI.out.ws; omega) (by unfold Fit; have := HI.out.bs; have := HI.out.i1; have := HLEN.out; omega) 1003 (by omega)
            rw [ht] at hT hm
            have HT := Aside0.mk hT
            clear hT ht
            subst hm
            have hwb : decide ((st.ws.length : Int) < 100) = true := decide_eq_true hw
            have hwc : decide (st.ws.length < 100) = true := decide_eq_true (by omega)
            clear hw
            go_wp2_with (first | ((with_reducible refine gate_callee (f := 13) rfl ?_); refine goesL_ (some 53) rfl rfl Try.func13 (by kernel_rfl) rfl #[.agg #[.int .i64 st.a, .slice Ax1 st.ws.length cx1, .slice Ax2 st.bs.length cx2], .int .i64 st.s] rfl (by (try simp only [List.map_toArray, List.map_cons, List.map_nil]); first | done | rfl) ?_; (with_reducible refine (channel_Transmit.calls 1003 st.a _ _ st.ws _ _ st.bs st.s t1 t2 t3 t4 _ (Kd.R_reads' X1.out).2.2 (Kd.R_reads' X1.out).2.1 (Kd.R_reads' X2.out).2.2 (Kd.R_reads' X2.out).2.1 HT.out).mono ?_); rintro e w9 ⟨v1_, v2_, rfl, ho1_, ho2_, hb_⟩; refine ⟨_, rfl, ?_⟩; have n0_ := Aside0.mk (below_step HB.out hb_); have n1_ := Aside0.mk (blk_below B2.out hb_); have n2_ := Aside0.mk (blk_below B6.out hb_); have n3_ := Aside0.mk (blk_below BS.out hb_); have n4_ := Aside0.mk (Kd.R_below X1.out hb_); have n5_ := Aside0.mk (Kd.R_below X2.out hb_); have n6_ := Aside0.mk (blk_below B10.out hb_); have Y1 := Aside0.mk (Kd.R_mono (Kd.R_lower ho1_ HB.out.size) (fun _ _ => trivial)); have Y2 := Aside0.mk (Kd.R_mono (Kd.R_lower ho2_ HB.out.size) (fun _ _ => trivial)); clear HB B2 B6 BS X1 X2 B10; have HB := n0_; have B2 := n1_; have B6 := n2_; have BS := n3_; have X1 := n4_; have X2 := n5_; have B10 := n6_; clear n0_ n1_ n2_ n3_ n4_ n5_ n6_; clear hb_ ho1_ ho2_; obtain ⟨Ay1, cy1, e1_⟩ := Kd.R_slice Y1.out; subst e1_; obtain ⟨Ay2, cy2, e2_⟩ := Kd.R_slice Y2.out; subst e2_; have hdz_0 : w9.cell? ⟨g10, 0, none⟩ = some (.int .i64 st.a) := (blk_cell B10.out 0).trans rfl; have hdz_1 : w9.cell? ⟨g10, 1, none⟩ = some (.slice Ax1 st.ws.length cx1) := (blk_cell B10.out 1).trans rfl; have hdz_2 : w9.cell? ⟨g10, 2, none⟩ = some (.slice Ax2 st.bs.length cx2) := (blk_cell B10.out 2).trans rfl; have hgz_0 := blk_frozen B10.out 0; have hgz_1 := blk_frozen B10.out 1; have hgz_2 := blk_frozen B10.out 2))
            go_meet
            case rel => exact ⟨_, .slice Ay1 t2.length cy1, .slice Ay2 t3.length cy2, rfl, rfl, rfl, rfl, ⟨blk_far3 BS.out NES.out _ _ _⟩, ⟨blk_far3 B6.out NE6.out _ _ _⟩, ⟨blk_put3 B10.out _ _ _⟩, ⟨blk_far3 B2.out NE2.out _ _ _⟩, ⟨R_put3 X1.out B10.out _ _ _⟩, ⟨R_put3 X2.out B10.out _ _ _⟩, ⟨R_put3 Y1.out B10.out _ _ _⟩, ⟨R_put3 Y2.out B10.out _ _ _⟩, ⟨below_put3 HB.out GE10.out _ _ _⟩⟩
          · have hm2 : m = ⟨i8, st.s, st.r, 0, st.a, st.ws, st.bs⟩ := by rw [← hm]; unfold midP; rw [if_neg (by omega), if_pos (by omega), if_neg hw]
            clear hm
            subst hm2
            have hwb : decide ((st.ws.length : Int) < 100) = false := decide_eq_false hw
            have hwc : decide (st.ws.length < 100) = false := decide_eq_false (by omega)
            clear hw
            go_wp2
            go_meet
            case rel => exact ⟨_, .slice Ax1 st.ws.length cx1, .slice Ax2 st.bs.length cx2, rfl, rfl, rfl, rfl, BS, B6, B10, B2, X1, X2, X1, X2, HB⟩
        · by_cases hw : (st.ws.length : Int) < 100
          · have hm2 : m = midOf i8 st.s st.r (transmitP st.a st.ws st.bs st.s) := by rw [← hm]; unfold midP; rw [if_neg (by omega), if_pos (by omega), if_pos hw]
            clear hm
            have hm := hm2
            clear hm2
            obtain ⟨⟨t1, t2, t3, t4⟩, ht⟩ : ∃ t, transmitP st.a st.ws st.bs st.s = t := ⟨_, rfl⟩
            have hT := transmit_ok st.a st.ws st.bs st.s (by unfold Fit; have := HI.out.ws; omega) (by unfold Fit; have := HI.out.bs; have := HI.out.i1; have := HLEN.out; omega) 1003 (by omega)
            rw [ht] at hT hm
            have HT := Aside0.mk hT
            clear hT ht
            subst hm
            have hwb : decide ((st.ws.length : Int) < 100) = true := decide_eq_true hw
            have hwc : decide (st.ws.length < 100) = true := decide_eq_true (by omega)
            clear hw
            go_wp2_with (first | ((with_reducible refine gate_callee (f := 13) rfl ?_); refine goesL_ (some 53) rfl rfl Try.func13 (by kernel_rfl) rfl #[.agg #[.int .i64 st.a, .slice Ax1 st.ws.length cx1, .slice Ax2 st.bs.length cx2], .int .i64 st.s] rfl (by (try simp only [List.map_toArray, List.map_cons, List.map_nil]); first | done | rfl) ?_; (with_reducible refine (channel_Transmit.calls 1003 st.a _ _ st.ws _ _ st.bs st.s t1 t2 t3 t4 _ (Kd.R_reads' X1.out).2.2 (Kd.R_reads' X1.out).2.1 (Kd.R_reads' X2.out).2.2 (Kd.R_reads' X2.out).2.1 HT.out).mono ?_); rintro e w9 ⟨v1_, v2_, rfl, ho1_, ho2_, hb_⟩; refine ⟨_, rfl, ?_⟩; have n0_ := Aside0.mk (below_step HB.out hb_); have n1_ := Aside0.mk (blk_below B2.out hb_); have n2_ := Aside0.mk (blk_below B6.out hb_); have n3_ := Aside0.mk (blk_below BS.out hb_); have n4_ := Aside0.mk (Kd.R_below X1.out hb_); have n5_ := Aside0.mk (Kd.R_below X2.out hb_); have n6_ := Aside0.mk (blk_below B10.out hb_); have Y1 := Aside0.mk (Kd.R_mono (Kd.R_lower ho1_ HB.out.size) (fun _ _ => trivial)); have Y2 := Aside0.mk (Kd.R_mono (Kd.R_lower ho2_ HB.out.size) (fun _ _ => trivial)); clear HB B2 B6 BS X1 X2 B10; have HB := n0_; have B2 := n1_; have B6 := n2_; have BS := n3_; have X1 := n4_; have X2 := n5_; have B10 := n6_; clear n0_ n1_ n2_ n3_ n4_ n5_ n6_; clear hb_ ho1_ ho2_; obtain ⟨Ay1, cy1, e1_⟩ := Kd.R_slice Y1.out; subst e1_; obtain ⟨Ay2, cy2, e2_⟩ := Kd.R_slice Y2.out; subst e2_; have hdz_0 : w9.cell? ⟨g10, 0, none⟩ = some (.int .i64 st.a) := (blk_cell B10.out 0).trans rfl; have hdz_1 : w9.cell? ⟨g10, 1, none⟩ = some (.slice Ax1 st.ws.length cx1) := (blk_cell B10.out 1).trans rfl; have hdz_2 : w9.cell? ⟨g10, 2, none⟩ = some (.slice Ax2 st.bs.length cx2) := (blk_cell B10.out 2).trans rfl; have hgz_0 := blk_frozen B10.out 0; have hgz_1 := blk_frozen B10.out 1; have hgz_2 := blk_frozen B10.out 2))
            go_meet
            case rel => exact ⟨_, .slice Ay1 t2.length cy1, .slice Ay2 t3.length cy2, rfl, rfl, rfl, rfl, ⟨blk_far3 BS.out NES.out _ _ _⟩, ⟨blk_far3 B6.out NE6.out _ _ _⟩, ⟨blk_put3 B10.out _ _ _⟩, ⟨blk_far3 B2.out NE2.out _ _ _⟩, ⟨R_put3 X1.out B10.out _ _ _⟩, ⟨R_put3 X2.out B10.out _ _ _⟩, ⟨R_put3 Y1.out B10.out _ _ _⟩, ⟨R_put3 Y2.out B10.out _ _ _⟩, ⟨below_put3 HB.out GE10.out _ _ _⟩⟩
          · have hm2 : m = ⟨i8, st.s, st.r, 0, st.a, st.ws, st.bs⟩ := by rw [← hm]; unfold midP; rw [if_neg (by omega), if_pos (by omega), if_neg hw]
            clear hm
            subst hm2
            have hwb : decide ((st.ws.length : Int) < 100) = false := decide_eq_false hw
            have hwc : decide (st.ws.length < 100) = false := decide_eq_false (by omega)
            clear hw
            go_wp2
            go_meet
            case rel => exact ⟨_, .slice Ax1 st.ws.length cx1, .slice Ax2 st.bs.length cx2, rfl, rfl, rfl, rfl, BS, B6, B10, B2, X1, X2, X1, X2, HB⟩
        · have hm2 : m = ⟨(nextP L i8 20).2, st.s, if (deliverP st.a st.ws st.bs (nextP L i8 20).1 st.r).2.2.2.2 = 0 then (if (deliverP st.a st.ws st.bs (nextP L i8 20).1 st.r).2.2.2.1 = st.r + 1 then (deliverP st.a st.ws st.bs (nextP L i8 20).1 st.r).2.2.2.1 else st.r) else st.r, (deliverP st.a st.ws st.bs (nextP L i8 20).1 st.r).2.2.2.2, (deliverP st.a st.ws st.bs (nextP L i8 20).1 st.r).1, (deliverP st.a st.ws st.bs (nextP L i8 20).1 st.r).2.1, (deliverP st.a st.ws st.bs (nextP L i8 20).1 st.r).2.2.1⟩ := by rw [← hm]; unfold midP; rw [if_neg (by omega), if_neg (by omega), if_pos (by omega)]
          clear hm
          have hm := hm2
          clear hm2
          obtain ⟨v20, hv20⟩ : ∃ v, (nextP L i8 20).1 = v := ⟨_, rfl⟩
          obtain ⟨j20, hj20⟩ : ∃ v, (nextP L i8 20).2 = v := ⟨_, rfl⟩
          rw [hv20, hj20] at hm
          have HV := Aside0.mk hv20
          have HV2 := Aside0.mk hj20
          clear hv20 hj20
          obtain ⟨⟨t1, t2, t3, t4, t5⟩, ht⟩ : ∃ t, deliverP st.a st.ws st.bs v20 st.r = t := ⟨_, rfl⟩
          have hT := deliver_ok st.a st.ws st.bs v20 st.r (by unfold Fit; have := HI.out.ws; omega) (by unfold Fit; have := HI.out.bs; have := HI.out.i1; have := HLEN.out; omega) 1 (by omega)
          rw [ht] at hT hm
          have HT := Aside0.mk hT
          clear hT ht
          subst hm
          go_wp2
          have n0_ := Aside0.mk (below_drew1 HB.out)
          have n1_ := Aside0.mk (blk_drew B2.out)
          have n2_ := Aside0.mk (blk_drew B6.out)
          have n3_ := Aside0.mk (blk_drew BS.out)
          have n4_ := Aside0.mk (Kd.R_drew X1.out)
          have n5_ := Aside0.mk (Kd.R_drew X2.out)
          have n6_ := Aside0.mk (blk_drew B10.out)
          clear HB B2 B6 BS X1 X2 B10
          have HB := n0_
          have B2 := n1_
          have B6 := n2_
          have BS := n3_
          have X1 := n4_
          have X2 := n5_
          have B10 := n6_
          clear n0_ n1_ n2_ n3_ n4_ n5_ n6_
          refine start_ (n := 12) (S := fun w' => w'.cell? ⟨g6, 0, none⟩ = some (.int .i64 st.a) ∧ w'.cell? ⟨g6, 1, none⟩ = some (.slice Ax1 st.ws.length cx1) ∧ w'.cell? ⟨g6, 2, none⟩ = some (.slice Ax2 st.bs.length cx2)) (ds := [9]) #[false, false, false, false, false, false, false, false, false, false, false, false] (by kernel_rfl) rfl rfl ⟨(blk_cell B6.out 0).trans rfl, (blk_cell B6.out 1).trans rfl, (blk_cell B6.out 2).trans rfl⟩ (fun hHeld => ?_)
          generalize w6.drew = w7 at HB B2 B6 BS X1 X2 B10 hHeld ⊢
          refine take_ (i := 0) (N := some 60) (v := ?_) (a' := ?_) #[true, false, false, false, false, false, false, false, false, false, false, false] rfl rfl (by kernel_rfl) (fun _ _ _ h => h) (Or.inl ⟨by rfl, ?_⟩) hHeld ?_ ?_
          rotate_left
          · rintro w' ⟨s0, s1, s2⟩
            go_simp
            with_reducible rfl
          rotate_left
          · simp only [Act.put, List.setIfInBounds_toArray, List.set_cons_zero, List.set_cons_succ, i64_w, i32_w]
            rfl
          refine pure_ (i := 1) (N := some 61) (v := ?_) (a' := ?_) #[true, true, false, false, false, false, false, false, false, false, false, false] rfl rfl (by kernel_rfl) (fun _ _ _ h => h) (Or.inl ⟨by rfl, ?_⟩) ?_ ?_
          rotate_left
          · intro w'
            go_simp
            with_reducible rfl
          rotate_left
          · simp only [Act.put, List.setIfInBounds_toArray, List.set_cons_zero, List.set_cons_succ, i64_w, i32_w]
            rfl
          refine pure_ (i := 3) (N := some 63) (v := ?_) (a' := ?_) #[true, true, false, true, false, false, false, false, false, false, false, false] rfl rfl (by kernel_rfl) (fun _ _ _ h => h) (Or.inl ⟨by rfl, ?_⟩) ?_ ?_
          rotate_left
          · intro w'
            go_simp
            with_reducible rfl
          rotate_left
          · simp only [Act.put, List.setIfInBounds_toArray, List.set_cons_zero, List.set_cons_succ, i64_w, i32_w]
            rfl
          refine one_ (i := 2) (N := some 62) #[true, true, true, true, false, false, false, false, false, false, false, false] rfl rfl (by kernel_rfl) (by decide) (fun K hK => ?_)
          refine goes_ Try.func31 (by kernel_rfl) rfl #[.pointer (some ⟨gS, 0, none⟩), .int .i64 20] (by rfl) rfl rfl (by (try simp only [List.map_toArray, List.map_cons, List.map_nil]); first | done | rfl) ?_
          refine (next_any gS A c L i8 20 _ BS.out (Kd.C_below HR.out HB.out) (by have := HLEN.out; omega) HI8.out (fun h1_ ad_ e_ => Nat.ne_of_lt (Nat.lt_of_lt_of_le (HF.out h1_ ad_ e_) GES.out)) (by omega) (by omega)).mono ?_
          rintro e w8 ⟨rfl, bs_, kb_, hb_⟩
          refine ⟨_, rfl, ?_⟩
          have n0_ := Aside0.mk (hb_ w HB.out GES.out)
          have n1_ := Aside0.mk (kb_.blk B2.out NE2S.out (by simp))
          have n2_ := Aside0.mk (kb_.blk B6.out NE6S.out (by simp))
          have n3_ := Aside0.mk bs_
          have n4_ := Aside0.mk (R_next X1.out BS.out kb_)
          have n5_ := Aside0.mk (R_next X2.out BS.out kb_)
          have n6_ := Aside0.mk (kb_.blk B10.out NES.out.symm (by simp))
          clear HB B2 B6 BS X1 X2 B10
          have HB := n0_
          have B2 := n1_
          have B6 := n2_
          have BS := n3_
          have X1 := n4_
          have X2 := n5_
          have B10 := n6_
          clear n0_ n1_ n2_ n3_ n4_ n5_ n6_
          clear bs_ kb_ hb_
          rw [HV.out]
          rw [HV2.out] at BS
          refine hK.out _ _ ⟨(blk_cell B6.out 0).trans rfl, (blk_cell B6.out 1).trans rfl, (blk_cell B6.out 2).trans rfl⟩ (fun hHeld => ?_)
          clear hK K
          refine norm_ (a' := ?_) ?_ ?_
          rotate_left
          · show Act.put _ (some 62) _ = _
            simp only [Act.put, List.setIfInBounds_toArray, List.set_cons_zero, List.set_cons_succ, i64_w, i32_w]
            rfl
          refine one_ (i := 4) (N := some 64) #[true, true, true, true, true, false, false, false, false, false, false, false] rfl rfl (by kernel_rfl) (by decide) (fun K hK => ?_)
          refine goes_ Try.func15 (by kernel_rfl) rfl #[.agg #[.int .i64 st.a, .slice Ax1 st.ws.length cx1, .slice Ax2 st.bs.length cx2], .int .i64 v20, .int .i64 st.r] (by rfl) rfl rfl (by (try simp only [List.map_toArray, List.map_cons, List.map_nil]); first | done | rfl) ?_
          refine (channel_Deliver.calls 1 st.a _ _ st.ws _ _ st.bs v20 st.r t1 t2 t3 t4 t5 _ (Kd.R_reads' X1.out).2.2 (Kd.R_reads' X1.out).2.1 (Kd.R_reads' X2.out).2.2 (Kd.R_reads' X2.out).2.1 HT.out).mono ?_
          rintro e w9 ⟨v1_, v2_, rfl, ho1_, ho2_, hb_⟩
          refine ⟨_, rfl, ?_⟩
          have n0_ := Aside0.mk (below_step HB.out hb_)
          have n1_ := Aside0.mk (blk_below B2.out hb_)
          have n2_ := Aside0.mk (blk_below B6.out hb_)
          have n3_ := Aside0.mk (blk_below BS.out hb_)
          have n4_ := Aside0.mk (Kd.R_below X1.out hb_)
          have n5_ := Aside0.mk (Kd.R_below X2.out hb_)
          have n6_ := Aside0.mk (blk_below B10.out hb_)
          have Y1 := Aside0.mk (Kd.R_mono (Kd.R_lower ho1_ HB.out.size) (fun _ _ => trivial))
          have Y2 := Aside0.mk (Kd.R_mono (Kd.R_lower ho2_ HB.out.size) (fun _ _ => trivial))
          clear HB B2 B6 BS X1 X2 B10
          have HB := n0_
          have B2 := n1_
          have B6 := n2_
          have BS := n3_
          have X1 := n4_
          have X2 := n5_
          have B10 := n6_
          clear n0_ n1_ n2_ n3_ n4_ n5_ n6_
          clear hb_ ho1_ ho2_
          obtain ⟨Ay1, cy1, e1_⟩ := Kd.R_slice Y1.out
          subst e1_
          obtain ⟨Ay2, cy2, e2_⟩ := Kd.R_slice Y2.out
          subst e2_
          refine hK.out _ _ ⟨(blk_cell B6.out 0).trans rfl, (blk_cell B6.out 1).trans rfl, (blk_cell B6.out 2).trans rfl⟩ (fun hHeld => ?_)
          clear hK K
          refine norm_ (a' := ?_) ?_ ?_
          rotate_left
          · show Act.put _ (some 64) _ = _
            simp only [Act.put, List.setIfInBounds_toArray, List.set_cons_zero, List.set_cons_succ, i64_w, i32_w]
            rfl
          refine pure_ (i := 5) (N := some 59) (v := ?_) (a' := ?_) #[true, true, true, true, true, true, false, false, false, false, false, false] rfl rfl (by kernel_rfl) (fun _ _ _ h => h) (Or.inl ⟨by rfl, ?_⟩) ?_ ?_
          rotate_left
          · intro w'
            go_simp
            with_reducible rfl
          rotate_left
          · simp only [Act.put, List.setIfInBounds_toArray, List.set_cons_zero, List.set_cons_succ, i64_w, i32_w]
            rfl
          refine pure_ (i := 6) (N := some 65) (v := ?_) (a' := ?_) #[true, true, true, true, true, true, true, false, false, false, false, false] rfl rfl (by kernel_rfl) (fun _ _ _ h => h) (Or.inl ⟨by rfl, ?_⟩) ?_ ?_
          rotate_left
          · intro w'
            go_simp
            with_reducible rfl
          rotate_left
          · simp only [Act.put, List.setIfInBounds_toArray, List.set_cons_zero, List.set_cons_succ, i64_w, i32_w]
            rfl
          refine pure_ (i := 7) (N := some 66) (v := ?_) (a' := ?_) #[true, true, true, true, true, true, true, true, false, false, false, false] rfl rfl (by kernel_rfl) (fun _ _ _ h => h) (Or.inl ⟨by rfl, ?_⟩) ?_ ?_
          rotate_left
          · intro w'
            go_simp
            with_reducible rfl
          rotate_left
          · simp only [Act.put, List.setIfInBounds_toArray, List.set_cons_zero, List.set_cons_succ, i64_w, i32_w]
            rfl
          refine pure_ (i := 8) (N := some 67) (v := ?_) (a' := ?_) #[true, true, true, true, true, true, true, true, true, false, false, false] rfl rfl (by kernel_rfl) (fun _ _ _ h => h) (Or.inl ⟨by rfl, ?_⟩) ?_ ?_
          rotate_left
          · intro w'
            go_simp
            with_reducible rfl
          rotate_left
          · simp only [Act.put, List.setIfInBounds_toArray, List.set_cons_zero, List.set_cons_succ, i64_w, i32_w]
            rfl
          have hn5 := NE6.out
          have hn6 := NE6.out.symm
          have hdz_0 : w9.cell? ⟨g10, 0, none⟩ = some (.int .i64 st.a) := (blk_cell B10.out 0).trans rfl
          have hdz_1 : w9.cell? ⟨g10, 1, none⟩ = some (.slice Ax1 st.ws.length cx1) := (blk_cell B10.out 1).trans rfl
          have hdz_2 : w9.cell? ⟨g10, 2, none⟩ = some (.slice Ax2 st.bs.length cx2) := (blk_cell B10.out 2).trans rfl
          have hgz_0 := blk_frozen B10.out 0
          have hgz_1 := blk_frozen B10.out 1
          have hgz_2 := blk_frozen B10.out 2
          refine last_ (i := 9) (N := none) #[true, true, true, true, true, true, true, true, true, true, false, false] rfl rfl (by kernel_rfl) (by decide) (fun K hK => ?_)
          refine skip_ (w1 := ?_) (by rfl) rfl ?_ ?_
          rotate_left
          · go_simp
            rfl
          refine hK.out _ _ ?_
          clear hK K
          refine pure_ (i := 10) (N := some 11) (v := ?_) (a' := ?_) #[true, true, true, true, true, true, true, true, true, true, true, false] rfl rfl (by kernel_rfl) (fun _ _ _ h => h) (Or.inl ⟨by rfl, ?_⟩) ?_ ?_
          rotate_left
          · intro w'
            go_simp
            with_reducible rfl
          rotate_left
          · simp only [Act.put, List.setIfInBounds_toArray, List.set_cons_zero, List.set_cons_succ, i64_w, i32_w]
            rfl
          refine pure_ (i := 11) (N := some 12) (v := ?_) (a' := ?_) #[true, true, true, true, true, true, true, true, true, true, true, true] rfl rfl (by kernel_rfl) (fun _ _ _ h => h) (Or.inl ⟨by rfl, ?_⟩) ?_ ?_
          rotate_left
          · intro w'
            go_simp
            with_reducible rfl
          rotate_left
          · simp only [Act.put, List.setIfInBounds_toArray, List.set_cons_zero, List.set_cons_succ, i64_w, i32_w]
            rfl
          refine done_ (by kernel_rfl) ?_
          by_cases he : t5 = 0
          · have heb : (t5 == 0) = true := beq_iff_eq.mpr he
            have hec : (t5 != 0) = false := bne_eq_false_iff_eq.mpr he
            have HE := Aside0.mk he
            clear he
            by_cases hn : t4 = st.r + 1
            · have hnb : (t4 == st.r + 1) = true := beq_iff_eq.mpr hn
              have HN := Aside0.mk hn
              clear hn
              go_wp2
              go_meet
              case rel => exact ⟨_, .slice Ay1 t2.length cy1, .slice Ay2 t3.length cy2, rfl, congrArg (Value.int .i64) (by show _ = (if _ then _ else _); rw [if_pos HE.out, if_pos HN.out]), rfl, rfl, ⟨blk_far3 BS.out NES.out _ _ _⟩, ⟨blk_far3 B6.out NE6.out _ _ _⟩, ⟨blk_put3 B10.out _ _ _⟩, ⟨blk_far3 B2.out NE2.out _ _ _⟩, ⟨R_put3 X1.out B10.out _ _ _⟩, ⟨R_put3 X2.out B10.out _ _ _⟩, ⟨R_put3 Y1.out B10.out _ _ _⟩, ⟨R_put3 Y2.out B10.out _ _ _⟩, ⟨below_put3 HB.out GE10.out _ _ _⟩⟩
            · have hnb : (t4 == st.r + 1) = false := beq_eq_false_iff_ne.mpr hn
              have HN := Aside0.mk hn
              clear hn
              go_wp2
              go_meet
              case rel => exact ⟨_, .slice Ay1 t2.length cy1, .slice Ay2 t3.length cy2, rfl, congrArg (Value.int .i64) (by show _ = (if _ then _ else _); rw [if_pos HE.out, if_neg HN.out]), rfl, rfl, ⟨blk_far3 BS.out NES.out _ _ _⟩, ⟨blk_far3 B6.out NE6.out _ _ _⟩, ⟨blk_put3 B10.out _ _ _⟩, ⟨blk_far3 B2.out NE2.out _ _ _⟩, ⟨R_put3 X1.out B10.out _ _ _⟩, ⟨R_put3 X2.out B10.out _ _ _⟩, ⟨R_put3 Y1.out B10.out _ _ _⟩, ⟨R_put3 Y2.out B10.out _ _ _⟩, ⟨below_put3 HB.out GE10.out _ _ _⟩⟩
          · have heb : (t5 == 0) = false := beq_eq_false_iff_ne.mpr he
            have hec : (t5 != 0) = true := bne_iff_ne.mpr he
            have HE := Aside0.mk he
            clear he
            go_wp2
            go_meet
            case rel => exact ⟨_, .slice Ay1 t2.length cy1, .slice Ay2 t3.length cy2, rfl, congrArg (Value.int .i64) (by show _ = (if _ then _ else _); rw [if_neg HE.out]), rfl, rfl, ⟨blk_far3 BS.out NES.out _ _ _⟩, ⟨blk_far3 B6.out NE6.out _ _ _⟩, ⟨blk_put3 B10.out _ _ _⟩, ⟨blk_far3 B2.out NE2.out _ _ _⟩, ⟨R_put3 X1.out B10.out _ _ _⟩, ⟨R_put3 X2.out B10.out _ _ _⟩, ⟨R_put3 Y1.out B10.out _ _ _⟩, ⟨R_put3 Y2.out B10.out _ _ _⟩, ⟨below_put3 HB.out GE10.out _ _ _⟩⟩
        · have hm2 : m = ⟨(nextP L i8 20).2, st.s, if (deliverP st.a st.ws st.bs (nextP L i8 20).1 st.r).2.2.2.2 = 0 then (if (deliverP st.a st.ws st.bs (nextP L i8 20).1 st.r).2.2.2.1 = st.r + 1 then (deliverP st.a st.ws st.bs (nextP L i8 20).1 st.r).2.2.2.1 else st.r) else st.r, (deliverP st.a st.ws st.bs (nextP L i8 20).1 st.r).2.2.2.2, (deliverP st.a st.ws st.bs (nextP L i8 20).1 st.r).1, (deliverP st.a st.ws st.bs (nextP L i8 20).1 st.r).2.1, (deliverP st.a st.ws st.bs (nextP L i8 20).1 st.r).2.2.1⟩ := by rw [← hm]; unfold midP; rw [if_neg (by omega), if_neg (by omega), if_pos (by omega)]
          clear hm
          have hm := hm2
          clear hm2
          obtain ⟨v20, hv20⟩ : ∃ v, (nextP L i8 20).1 = v := ⟨_, rfl⟩
          obtain ⟨j20, hj20⟩ : ∃ v, (nextP L i8 20).2 = v := ⟨_, rfl⟩
          rw [hv20, hj20] at hm
          have HV := Aside0.mk hv20
          have HV2 := Aside0.mk hj20
          clear hv20 hj20
          obtain ⟨⟨t1, t2, t3, t4, t5⟩, ht⟩ : ∃ t, deliverP st.a st.ws st.bs v20 st.r = t := ⟨_, rfl⟩
          have hT := deliver_ok st.a st.ws st.bs v20 st.r (by unfold Fit; have := HI.out.ws; omega) (by unfold Fit; have := HI.out.bs; have := HI.out.i1; have := HLEN.out; omega) 1 (by omega)
          rw [ht] at hT hm
          have HT := Aside0.mk hT
          clear hT ht
          subst hm
          go_wp2
          have n0_ := Aside0.mk (below_drew1 HB.out)
          have n1_ := Aside0.mk (blk_drew B2.out)
          have n2_ := Aside0.mk (blk_drew B6.out)
          have n3_ := Aside0.mk (blk_drew BS.out)
          have n4_ := Aside0.mk (Kd.R_drew X1.out)
          have n5_ := Aside0.mk (Kd.R_drew X2.out)
          have n6_ := Aside0.mk (blk_drew B10.out)
          clear HB B2 B6 BS X1 X2 B10
          have HB := n0_
          have B2 := n1_
          have B6 := n2_
          have BS := n3_
          have X1 := n4_
          have X2 := n5_
          have B10 := n6_
          clear n0_ n1_ n2_ n3_ n4_ n5_ n6_
          refine start_ (n := 12) (S := fun w' => w'.cell? ⟨g6, 0, none⟩ = some (.int .i64 st.a) ∧ w'.cell? ⟨g6, 1, none⟩ = some (.slice Ax1 st.ws.length cx1) ∧ w'.cell? ⟨g6, 2, none⟩ = some (.slice Ax2 st.bs.length cx2)) (ds := [9]) #[false, false, false, false, false, false, false, false, false, false, false, false] (by kernel_rfl) rfl rfl ⟨(blk_cell B6.out 0).trans rfl, (blk_cell B6.out 1).trans rfl, (blk_cell B6.out 2).trans rfl⟩ (fun hHeld => ?_)
          generalize w6.drew = w7 at HB B2 B6 BS X1 X2 B10 hHeld ⊢
          refine take_ (i := 0) (N := some 60) (v := ?_) (a' := ?_) #[true, false, false, false, false, false, false, false, false, false, false, false] rfl rfl (by kernel_rfl) (fun _ _ _ h => h) (Or.inl ⟨by rfl, ?_⟩) hHeld ?_ ?_
          rotate_left
          · rintro w' ⟨s0, s1, s2⟩
            go_simp
            with_reducible rfl
          rotate_left
          · simp only [Act.put, List.setIfInBounds_toArray, List.set_cons_zero, List.set_cons_succ, i64_w, i32_w]
            rfl
          refine pure_ (i := 1) (N := some 61) (v := ?_) (a' := ?_) #[true, true, false, false, false, false, false, false, false, false, false, false] rfl rfl (by kernel_rfl) (fun _ _ _ h => h) (Or.inl ⟨by rfl, ?_⟩) ?_ ?_
          rotate_left
          · intro w'
            go_simp
            with_reducible rfl
          rotate_left
          · simp only [Act.put, List.setIfInBounds_toArray, List.set_cons_zero, List.set_cons_succ, i64_w, i32_w]
            rfl
          refine pure_ (i := 3) (N := some 63) (v := ?_) (a' := ?_) #[true, true, false, true, false, false, false, false, false, false, false, false] rfl rfl (by kernel_rfl) (fun _ _ _ h => h) (Or.inl ⟨by rfl, ?_⟩) ?_ ?_
          rotate_left
          · intro w'
            go_simp
            with_reducible rfl
          rotate_left
          · simp only [Act.put, List.setIfInBounds_toArray, List.set_cons_zero, List.set_cons_succ, i64_w, i32_w]
            rfl
          refine one_ (i := 2) (N := some 62) #[true, true, true, true, false, false, false, false, false, false, false, false] rfl rfl (by kernel_rfl) (by decide) (fun K hK => ?_)
          refine goes_ Try.func31 (by kernel_rfl) rfl #[.pointer (some ⟨gS, 0, none⟩), .int .i64 20] (by rfl) rfl rfl (by (try simp only [List.map_toArray, List.map_cons, List.map_nil]); first | done | rfl) ?_
          refine (next_any gS A c L i8 20 _ BS.out (Kd.C_below HR.out HB.out) (by have := HLEN.out; omega) HI8.out (fun h1_ ad_ e_ => Nat.ne_of_lt (Nat.lt_of_lt_of_le (HF.out h1_ ad_ e_) GES.out)) (by omega) (by omega)).mono ?_
          rintro e w8 ⟨rfl, bs_, kb_, hb_⟩
          refine ⟨_, rfl, ?_⟩
          have n0_ := Aside0.mk (hb_ w HB.out GES.out)
          have n1_ := Aside0.mk (kb_.blk B2.out NE2S.out (by simp))
          have n2_ := Aside0.mk (kb_.blk B6.out NE6S.out (by simp))
          have n3_ := Aside0.mk bs_
          have n4_ := Aside0.mk (R_next X1.out BS.out kb_)
          have n5_ := Aside0.mk (R_next X2.out BS.out kb_)
          have n6_ := Aside0.mk (kb_.blk B10.out NES.out.symm (by simp))
          clear HB B2 B6 BS X1 X2 B10
          have HB := n0_
          have B2 := n1_
          have B6 := n2_
          have BS := n3_
          have X1 := n4_
          have X2 := n5_
          have B10 := n6_
          clear n0_ n1_ n2_ n3_ n4_ n5_ n6_
          clear bs_ kb_ hb_
          rw [HV.out]
          rw [HV2.out] at BS
          refine hK.out _ _ ⟨(blk_cell B6.out 0).trans rfl, (blk_cell B6.out 1).trans rfl, (blk_cell B6.out 2).trans rfl⟩ (fun hHeld => ?_)
          clear hK K
          refine norm_ (a' := ?_) ?_ ?_
          rotate_left
          · show Act.put _ (some 62) _ = _
            simp only [Act.put, List.setIfInBounds_toArray, List.set_cons_zero, List.set_cons_succ, i64_w, i32_w]
            rfl
          refine one_ (i := 4) (N := some 64) #[true, true, true, true, true, false, false, false, false, false, false, false] rfl rfl (by kernel_rfl) (by decide) (fun K hK => ?_)
          refine goes_ Try.func15 (by kernel_rfl) rfl #[.agg #[.int .i64 st.a, .slice Ax1 st.ws.length cx1, .slice Ax2 st.bs.length cx2], .int .i64 v20, .int .i64 st.r] (by rfl) rfl rfl (by (try simp only [List.map_toArray, List.map_cons, List.map_nil]); first | done | rfl) ?_
          refine (channel_Deliver.calls 1 st.a _ _ st.ws _ _ st.bs v20 st.r t1 t2 t3 t4 t5 _ (Kd.R_reads' X1.out).2.2 (Kd.R_reads' X1.out).2.1 (Kd.R_reads' X2.out).2.2 (Kd.R_reads' X2.out).2.1 HT.out).mono ?_
          rintro e w9 ⟨v1_, v2_, rfl, ho1_, ho2_, hb_⟩
          refine ⟨_, rfl, ?_⟩
          have n0_ := Aside0.mk (below_step HB.out hb_)
          have n1_ := Aside0.mk (blk_below B2.out hb_)
          have n2_ := Aside0.mk (blk_below B6.out hb_)
          have n3_ := Aside0.mk (blk_below BS.out hb_)
          have n4_ := Aside0.mk (Kd.R_below X1.out hb_)
          have n5_ := Aside0.mk (Kd.R_below X2.out hb_)
          have n6_ := Aside0.mk (blk_below B10.out hb_)
          have Y1 := Aside0.mk (Kd.R_mono (Kd.R_lower ho1_ HB.out.size) (fun _ _ => trivial))
          have Y2 := Aside0.mk (Kd.R_mono (Kd.R_lower ho2_ HB.out.size) (fun _ _ => trivial))
          clear HB B2 B6 BS X1 X2 B10
          have HB := n0_
          have B2 := n1_
          have B6 := n2_
          have BS := n3_
          have X1 := n4_
          have X2 := n5_
          have B10 := n6_
          clear n0_ n1_ n2_ n3_ n4_ n5_ n6_
          clear hb_ ho1_ ho2_
          obtain ⟨Ay1, cy1, e1_⟩ := Kd.R_slice Y1.out
          subst e1_
          obtain ⟨Ay2, cy2, e2_⟩ := Kd.R_slice Y2.out
          subst e2_
          refine hK.out _ _ ⟨(blk_cell B6.out 0).trans rfl, (blk_cell B6.out 1).trans rfl, (blk_cell B6.out 2).trans rfl⟩ (fun hHeld => ?_)
          clear hK K
          refine norm_ (a' := ?_) ?_ ?_
          rotate_left
          · show Act.put _ (some 64) _ = _
            simp only [Act.put, List.setIfInBounds_toArray, List.set_cons_zero, List.set_cons_succ, i64_w, i32_w]
            rfl
          refine pure_ (i := 5) (N := some 59) (v := ?_) (a' := ?_) #[true, true, true, true, true, true, false, false, false, false, false, false] rfl rfl (by kernel_rfl) (fun _ _ _ h => h) (Or.inl ⟨by rfl, ?_⟩) ?_ ?_
          rotate_left
          · intro w'
            go_simp
            with_reducible rfl
          rotate_left
          · simp only [Act.put, List.setIfInBounds_toArray, List.set_cons_zero, List.set_cons_succ, i64_w, i32_w]
            rfl
          refine pure_ (i := 6) (N := some 65) (v := ?_) (a' := ?_) #[true, true, true, true, true, true, true, false, false, false, false, false] rfl rfl (by kernel_rfl) (fun _ _ _ h => h) (Or.inl ⟨by rfl, ?_⟩) ?_ ?_
          rotate_left
          · intro w'
            go_simp
            with_reducible rfl
          rotate_left
          · simp only [Act.put, List.setIfInBounds_toArray, List.set_cons_zero, List.set_cons_succ, i64_w, i32_w]
            rfl
          refine pure_ (i := 7) (N := some 66) (v := ?_) (a' := ?_) #[true, true, true, true, true, true, true, true, false, false, false, false] rfl rfl (by kernel_rfl) (fun _ _ _ h => h) (Or.inl ⟨by rfl, ?_⟩) ?_ ?_
          rotate_left
          · intro w'
            go_simp
            with_reducible rfl
          rotate_left
          · simp only [Act.put, List.setIfInBounds_toArray, List.set_cons_zero, List.set_cons_succ, i64_w, i32_w]
            rfl
          refine pure_ (i := 8) (N := some 67) (v := ?_) (a' := ?_) #[true, true, true, true, true, true, true, true, true, false, false, false] rfl rfl (by kernel_rfl) (fun _ _ _ h => h) (Or.inl ⟨by rfl, ?_⟩) ?_ ?_
          rotate_left
          · intro w'
            go_simp
            with_reducible rfl
          rotate_left
          · simp only [Act.put, List.setIfInBounds_toArray, List.set_cons_zero, List.set_cons_succ, i64_w, i32_w]
            rfl
          have hn5 := NE6.out
          have hn6 := NE6.out.symm
          have hdz_0 : w9.cell? ⟨g10, 0, none⟩ = some (.int .i64 st.a) := (blk_cell B10.out 0).trans rfl
          have hdz_1 : w9.cell? ⟨g10, 1, none⟩ = some (.slice Ax1 st.ws.length cx1) := (blk_cell B10.out 1).trans rfl
          have hdz_2 : w9.cell? ⟨g10, 2, none⟩ = some (.slice Ax2 st.bs.length cx2) := (blk_cell B10.out 2).trans rfl
          have hgz_0 := blk_frozen B10.out 0
          have hgz_1 := blk_frozen B10.out 1
          have hgz_2 := blk_frozen B10.out 2
          refine last_ (i := 9) (N := none) #[true, true, true, true, true, true, true, true, true, true, false, false] rfl rfl (by kernel_rfl) (by decide) (fun K hK => ?_)
          refine skip_ (w1 := ?_) (by rfl) rfl ?_ ?_
          rotate_left
          · go_simp
            rfl
          refine hK.out _ _ ?_
          clear hK K
          refine pure_ (i := 10) (N := some 11) (v := ?_) (a' := ?_) #[true, true, true, true, true, true, true, true, true, true, true, false] rfl rfl (by kernel_rfl) (fun _ _ _ h => h) (Or.inl ⟨by rfl, ?_⟩) ?_ ?_
          rotate_left
          · intro w'
            go_simp
            with_reducible rfl
          rotate_left
          · simp only [Act.put, List.setIfInBounds_toArray, List.set_cons_zero, List.set_cons_succ, i64_w, i32_w]
            rfl
          refine pure_ (i := 11) (N := some 12) (v := ?_) (a' := ?_) #[true, true, true, true, true, true, true, true, true, true, true, true] rfl rfl (by kernel_rfl) (fun _ _ _ h => h) (Or.inl ⟨by rfl, ?_⟩) ?_ ?_
          rotate_left
          · intro w'
            go_simp
            with_reducible rfl
          rotate_left
          · simp only [Act.put, List.setIfInBounds_toArray, List.set_cons_zero, List.set_cons_succ, i64_w, i32_w]
            rfl
          refine done_ (by kernel_rfl) ?_
          by_cases he : t5 = 0
          · have heb : (t5 == 0) = true := beq_iff_eq.mpr he
            have hec : (t5 != 0) = false := bne_eq_false_iff_eq.mpr he
            have HE := Aside0.mk he
            clear he
            by_cases hn : t4 = st.r + 1
            · have hnb : (t4 == st.r + 1) = true := beq_iff_eq.mpr hn
              have HN := Aside0.mk hn
              clear hn
              go_wp2
              go_meet
              case rel => exact ⟨_, .slice Ay1 t2.length cy1, .slice Ay2 t3.length cy2, rfl, congrArg (Value.int .i64) (by show _ = (if _ then _ else _); rw [if_pos HE.out, if_pos HN.out]), rfl, rfl, ⟨blk_far3 BS.out NES.out _ _ _⟩, ⟨blk_far3 B6.out NE6.out _ _ _⟩, ⟨blk_put3 B10.out _ _ _⟩, ⟨blk_far3 B2.out NE2.out _ _ _⟩, ⟨R_put3 X1.out B10.out _ _ _⟩, ⟨R_put3 X2.out B10.out _ _ _⟩, ⟨R_put3 Y1.out B10.out _ _ _⟩, ⟨R_put3 Y2.out B10.out _ _ _⟩, ⟨below_put3 HB.out GE10.out _ _ _⟩⟩
            · have hnb : (t4 == st.r + 1) = false := beq_eq_false_iff_ne.mpr hn
              have HN := Aside0.mk hn
              clear hn
              go_wp2
              go_meet
              case rel => exact ⟨_, .slice Ay1 t2.length cy1, .slice Ay2 t3.length cy2, rfl, congrArg (Value.int .i64) (by show _ = (if _ then _ else _); rw [if_pos HE.out, if_neg HN.out]), rfl, rfl, ⟨blk_far3 BS.out NES.out _ _ _⟩, ⟨blk_far3 B6.out NE6.out _ _ _⟩, ⟨blk_put3 B10.out _ _ _⟩, ⟨blk_far3 B2.out NE2.out _ _ _⟩, ⟨R_put3 X1.out B10.out _ _ _⟩, ⟨R_put3 X2.out B10.out _ _ _⟩, ⟨R_put3 Y1.out B10.out _ _ _⟩, ⟨R_put3 Y2.out B10.out _ _ _⟩, ⟨below_put3 HB.out GE10.out _ _ _⟩⟩
          · have heb : (t5 == 0) = false := beq_eq_false_iff_ne.mpr he
            have hec : (t5 != 0) = true := bne_iff_ne.mpr he
            have HE := Aside0.mk he
            clear he
            go_wp2
            go_meet
            case rel => exact ⟨_, .slice Ay1 t2.length cy1, .slice Ay2 t3.length cy2, rfl, congrArg (Value.int .i64) (by show _ = (if _ then _ else _); rw [if_neg HE.out]), rfl, rfl, ⟨blk_far3 BS.out NES.out _ _ _⟩, ⟨blk_far3 B6.out NE6.out _ _ _⟩, ⟨blk_put3 B10.out _ _ _⟩, ⟨blk_far3 B2.out NE2.out _ _ _⟩, ⟨R_put3 X1.out B10.out _ _ _⟩, ⟨R_put3 X2.out B10.out _ _ _⟩, ⟨R_put3 Y1.out B10.out _ _ _⟩, ⟨R_put3 Y2.out B10.out _ _ _⟩, ⟨below_put3 HB.out GE10.out _ _ _⟩⟩
        · have hm2 : m = midOf (nextP L i8 20).2 st.s st.r (loseP st.a st.ws st.bs (nextP L i8 20).1) := by rw [← hm]; unfold midP; rw [if_neg (by omega), if_neg (by omega), if_neg (by omega), if_pos rfl]
          clear hm
          have hm := hm2
          clear hm2
          obtain ⟨v20, hv20⟩ : ∃ v, (nextP L i8 20).1 = v := ⟨_, rfl⟩
          obtain ⟨j20, hj20⟩ : ∃ v, (nextP L i8 20).2 = v := ⟨_, rfl⟩
          rw [hv20, hj20] at hm
          have HV := Aside0.mk hv20
          have HV2 := Aside0.mk hj20
          clear hv20 hj20
          obtain ⟨⟨t1, t2, t3, t4⟩, ht⟩ : ∃ t, loseP st.a st.ws st.bs v20 = t := ⟨_, rfl⟩
          have hT := lose_ok st.a st.ws st.bs v20 (by unfold Fit; have := HI.out.ws; omega) (by unfold Fit; have := HI.out.bs; have := HI.out.i1; have := HLEN.out; omega)
          rw [ht] at hT hm
          have HT := Aside0.mk hT
          clear hT ht
          subst hm
          go_wp2
          have n0_ := Aside0.mk (below_drew1 HB.out)
          have n1_ := Aside0.mk (blk_drew B2.out)
          have n2_ := Aside0.mk (blk_drew B6.out)
          have n3_ := Aside0.mk (blk_drew BS.out)
          have n4_ := Aside0.mk (Kd.R_drew X1.out)
          have n5_ := Aside0.mk (Kd.R_drew X2.out)
          have n6_ := Aside0.mk (blk_drew B10.out)
          clear HB B2 B6 BS X1 X2 B10
          have HB := n0_
          have B2 := n1_
          have B6 := n2_
          have BS := n3_
          have X1 := n4_
          have X2 := n5_
          have B10 := n6_
          clear n0_ n1_ n2_ n3_ n4_ n5_ n6_
          refine start_ (n := 9) (S := fun w' => w'.cell? ⟨g6, 0, none⟩ = some (.int .i64 st.a) ∧ w'.cell? ⟨g6, 1, none⟩ = some (.slice Ax1 st.ws.length cx1) ∧ w'.cell? ⟨g6, 2, none⟩ = some (.slice Ax2 st.bs.length cx2)) (ds := [7]) #[false, false, false, false, false, false, false, false, false] (by kernel_rfl) rfl rfl ⟨(blk_cell B6.out 0).trans rfl, (blk_cell B6.out 1).trans rfl, (blk_cell B6.out 2).trans rfl⟩ (fun hHeld => ?_)
          generalize w6.drew = w7 at HB B2 B6 BS X1 X2 B10 hHeld ⊢
          refine take_ (i := 0) (N := some 80) (v := ?_) (a' := ?_) #[true, false, false, false, false, false, false, false, false] rfl rfl (by kernel_rfl) (fun _ _ _ h => h) (Or.inl ⟨by rfl, ?_⟩) hHeld ?_ ?_
          rotate_left
          · rintro w' ⟨s0, s1, s2⟩
            go_simp
            with_reducible rfl
          rotate_left
          · simp only [Act.put, List.setIfInBounds_toArray, List.set_cons_zero, List.set_cons_succ, i64_w, i32_w]
            rfl
          refine pure_ (i := 1) (N := some 81) (v := ?_) (a' := ?_) #[true, true, false, false, false, false, false, false, false] rfl rfl (by kernel_rfl) (fun _ _ _ h => h) (Or.inl ⟨by rfl, ?_⟩) ?_ ?_
          rotate_left
          · intro w'
            go_simp
            with_reducible rfl
          rotate_left
          · simp only [Act.put, List.setIfInBounds_toArray, List.set_cons_zero, List.set_cons_succ, i64_w, i32_w]
            rfl
          refine one_ (i := 2) (N := some 82) #[true, true, true, false, false, false, false, false, false] rfl rfl (by kernel_rfl) (by decide) (fun K hK => ?_)
          refine goes_ Try.func31 (by kernel_rfl) rfl #[.pointer (some ⟨gS, 0, none⟩), .int .i64 20] (by rfl) rfl rfl (by (try simp only [List.map_toArray, List.map_cons, List.map_nil]); first | done | rfl) ?_
          refine (next_any gS A c L i8 20 _ BS.out (Kd.C_below HR.out HB.out) (by have := HLEN.out; omega) HI8.out (fun h1_ ad_ e_ => Nat.ne_of_lt (Nat.lt_of_lt_of_le (HF.out h1_ ad_ e_) GES.out)) (by omega) (by omega)).mono ?_
          rintro e w8 ⟨rfl, bs_, kb_, hb_⟩
          refine ⟨_, rfl, ?_⟩
          have n0_ := Aside0.mk (hb_ w HB.out GES.out)
          have n1_ := Aside0.mk (kb_.blk B2.out NE2S.out (by simp))
          have n2_ := Aside0.mk (kb_.blk B6.out NE6S.out (by simp))
          have n3_ := Aside0.mk bs_
          have n4_ := Aside0.mk (R_next X1.out BS.out kb_)
          have n5_ := Aside0.mk (R_next X2.out BS.out kb_)
          have n6_ := Aside0.mk (kb_.blk B10.out NES.out.symm (by simp))
          clear HB B2 B6 BS X1 X2 B10
          have HB := n0_
          have B2 := n1_
          have B6 := n2_
          have BS := n3_
          have X1 := n4_
          have X2 := n5_
          have B10 := n6_
          clear n0_ n1_ n2_ n3_ n4_ n5_ n6_
          clear bs_ kb_ hb_
          rw [HV.out]
          rw [HV2.out] at BS
          refine hK.out _ _ ⟨(blk_cell B6.out 0).trans rfl, (blk_cell B6.out 1).trans rfl, (blk_cell B6.out 2).trans rfl⟩ (fun hHeld => ?_)
          clear hK K
          refine norm_ (a' := ?_) ?_ ?_
          rotate_left
          · show Act.put _ (some 82) _ = _
            simp only [Act.put, List.setIfInBounds_toArray, List.set_cons_zero, List.set_cons_succ, i64_w, i32_w]
            rfl
          refine one_ (i := 3) (N := some 83) #[true, true, true, true, false, false, false, false, false] rfl rfl (by kernel_rfl) (by decide) (fun K hK => ?_)
          refine goes_ Try.func17 (by kernel_rfl) rfl #[.agg #[.int .i64 st.a, .slice Ax1 st.ws.length cx1, .slice Ax2 st.bs.length cx2], .int .i64 v20] (by rfl) rfl rfl (by (try simp only [List.map_toArray, List.map_cons, List.map_nil]); first | done | rfl) ?_
          refine (channel_Lose.calls st.a _ _ st.ws _ _ st.bs v20 t1 t2 t3 t4 _ (Kd.R_reads' X1.out).2.2 (Kd.R_reads' X1.out).2.1 (Kd.R_reads' X2.out).2.2 (Kd.R_reads' X2.out).2.1 HT.out).mono ?_
          rintro e w9 ⟨v1_, v2_, rfl, ho1_, ho2_, hb_⟩
          refine ⟨_, rfl, ?_⟩
          have n0_ := Aside0.mk (below_step HB.out hb_)
          have n1_ := Aside0.mk (blk_below B2.out hb_)
          have n2_ := Aside0.mk (blk_below B6.out hb_)
          have n3_ := Aside0.mk (blk_below BS.out hb_)
          have n4_ := Aside0.mk (Kd.R_below X1.out hb_)
          have n5_ := Aside0.mk (Kd.R_below X2.out hb_)
          have n6_ := Aside0.mk (blk_below B10.out hb_)
          have Y1 := Aside0.mk (Kd.R_mono (Kd.R_lower ho1_ HB.out.size) (fun _ _ => trivial))
          have Y2 := Aside0.mk (Kd.R_mono (Kd.R_lower ho2_ HB.out.size) (fun _ _ => trivial))
          clear HB B2 B6 BS X1 X2 B10
          have HB := n0_
          have B2 := n1_
          have B6 := n2_
          have BS := n3_
          have X1 := n4_
          have X2 := n5_
          have B10 := n6_
          clear n0_ n1_ n2_ n3_ n4_ n5_ n6_
          clear hb_ ho1_ ho2_
          obtain ⟨Ay1, cy1, e1_⟩ := Kd.R_slice Y1.out
          subst e1_
          obtain ⟨Ay2, cy2, e2_⟩ := Kd.R_slice Y2.out
          subst e2_
          refine hK.out _ _ ⟨(blk_cell B6.out 0).trans rfl, (blk_cell B6.out 1).trans rfl, (blk_cell B6.out 2).trans rfl⟩ (fun hHeld => ?_)
          clear hK K
          refine norm_ (a' := ?_) ?_ ?_
          rotate_left
          · show Act.put _ (some 83) _ = _
            simp only [Act.put, List.setIfInBounds_toArray, List.set_cons_zero, List.set_cons_succ, i64_w, i32_w]
            rfl
          refine pure_ (i := 4) (N := some 79) (v := ?_) (a' := ?_) #[true, true, true, true, true, false, false, false, false] rfl rfl (by kernel_rfl) (fun _ _ _ h => h) (Or.inl ⟨by rfl, ?_⟩) ?_ ?_
          rotate_left
          · intro w'
            go_simp
            with_reducible rfl
          rotate_left
          · simp only [Act.put, List.setIfInBounds_toArray, List.set_cons_zero, List.set_cons_succ, i64_w, i32_w]
            rfl
          refine pure_ (i := 5) (N := some 84) (v := ?_) (a' := ?_) #[true, true, true, true, true, true, false, false, false] rfl rfl (by kernel_rfl) (fun _ _ _ h => h) (Or.inl ⟨by rfl, ?_⟩) ?_ ?_
          rotate_left
          · intro w'
            go_simp
            with_reducible rfl
          rotate_left
          · simp only [Act.put, List.setIfInBounds_toArray, List.set_cons_zero, List.set_cons_succ, i64_w, i32_w]
            rfl
          refine pure_ (i := 6) (N := some 85) (v := ?_) (a' := ?_) #[true, true, true, true, true, true, true, false, false] rfl rfl (by kernel_rfl) (fun _ _ _ h => h) (Or.inl ⟨by rfl, ?_⟩) ?_ ?_
          rotate_left
          · intro w'
            go_simp
            with_reducible rfl
          rotate_left
          · simp only [Act.put, List.setIfInBounds_toArray, List.set_cons_zero, List.set_cons_succ, i64_w, i32_w]
            rfl
          have hn5 := NE6.out
          have hn6 := NE6.out.symm
          have hdz_0 : w9.cell? ⟨g10, 0, none⟩ = some (.int .i64 st.a) := (blk_cell B10.out 0).trans rfl
          have hdz_1 : w9.cell? ⟨g10, 1, none⟩ = some (.slice Ax1 st.ws.length cx1) := (blk_cell B10.out 1).trans rfl
          have hdz_2 : w9.cell? ⟨g10, 2, none⟩ = some (.slice Ax2 st.bs.length cx2) := (blk_cell B10.out 2).trans rfl
          have hgz_0 := blk_frozen B10.out 0
          have hgz_1 := blk_frozen B10.out 1
          have hgz_2 := blk_frozen B10.out 2
          refine last_ (i := 7) (N := none) #[true, true, true, true, true, true, true, true, false] rfl rfl (by kernel_rfl) (by decide) (fun K hK => ?_)
          refine skip_ (w1 := ?_) (by rfl) rfl ?_ ?_
          rotate_left
          · go_simp
            rfl
          refine hK.out _ _ ?_
          clear hK K
          refine pure_ (i := 8) (N := some 12) (v := ?_) (a' := ?_) #[true, true, true, true, true, true, true, true, true] rfl rfl (by kernel_rfl) (fun _ _ _ h => h) (Or.inl ⟨by rfl, ?_⟩) ?_ ?_
          rotate_left
          · intro w'
            go_simp
            with_reducible rfl
          rotate_left
          · simp only [Act.put, List.setIfInBounds_toArray, List.set_cons_zero, List.set_cons_succ, i64_w, i32_w]
            rfl
          refine done_ (by kernel_rfl) ?_
          try go_wp2
          go_meet
          case rel => exact ⟨_, .slice Ay1 t2.length cy1, .slice Ay2 t3.length cy2, rfl, rfl, rfl, rfl, ⟨blk_far3 BS.out NES.out _ _ _⟩, ⟨blk_far3 B6.out NE6.out _ _ _⟩, ⟨blk_put3 B10.out _ _ _⟩, ⟨blk_far3 B2.out NE2.out _ _ _⟩, ⟨R_put3 X1.out B10.out _ _ _⟩, ⟨R_put3 X2.out B10.out _ _ _⟩, ⟨R_put3 Y1.out B10.out _ _ _⟩, ⟨R_put3 Y2.out B10.out _ _ _⟩, ⟨below_put3 HB.out GE10.out _ _ _⟩⟩
        · have hm2 : m = midOf (nextP L i8 20).2 st.s st.r (repeatP st.a st.ws st.bs (nextP L i8 20).1) := by rw [← hm]; unfold midP; rw [if_neg (by omega), if_neg (by omega), if_neg (by omega), if_neg (by omega), if_pos rfl]
          clear hm
          have hm := hm2
          clear hm2
          obtain ⟨v20, hv20⟩ : ∃ v, (nextP L i8 20).1 = v := ⟨_, rfl⟩
          obtain ⟨j20, hj20⟩ : ∃ v, (nextP L i8 20).2 = v := ⟨_, rfl⟩
          rw [hv20, hj20] at hm
          have HV := Aside0.mk hv20
          have HV2 := Aside0.mk hj20
          clear hv20 hj20
          obtain ⟨⟨t1, t2, t3, t4⟩, ht⟩ : ∃ t, repeatP st.a st.ws st.bs v20 = t := ⟨_, rfl⟩
          have hT := repeat_ok st.a st.ws st.bs v20 (by unfold Fit; have := HI.out.ws; omega) (by unfold Fit; have := HI.out.bs; have := HI.out.i1; have := HLEN.out; omega)
          rw [ht] at hT hm
          have HT := Aside0.mk hT
          clear hT ht
          subst hm
          go_wp2
          have n0_ := Aside0.mk (below_drew1 HB.out)
          have n1_ := Aside0.mk (blk_drew B2.out)
          have n2_ := Aside0.mk (blk_drew B6.out)
          have n3_ := Aside0.mk (blk_drew BS.out)
          have n4_ := Aside0.mk (Kd.R_drew X1.out)
          have n5_ := Aside0.mk (Kd.R_drew X2.out)
          have n6_ := Aside0.mk (blk_drew B10.out)
          clear HB B2 B6 BS X1 X2 B10
          have HB := n0_
          have B2 := n1_
          have B6 := n2_
          have BS := n3_
          have X1 := n4_
          have X2 := n5_
          have B10 := n6_
          clear n0_ n1_ n2_ n3_ n4_ n5_ n6_
          refine start_ (n := 9) (S := fun w' => w'.cell? ⟨g6, 0, none⟩ = some (.int .i64 st.a) ∧ w'.cell? ⟨g6, 1, none⟩ = some (.slice Ax1 st.ws.length cx1) ∧ w'.cell? ⟨g6, 2, none⟩ = some (.slice Ax2 st.bs.length cx2)) (ds := [7]) #[false, false, false, false, false, false, false, false, false] (by kernel_rfl) rfl rfl ⟨(blk_cell B6.out 0).trans rfl, (blk_cell B6.out 1).trans rfl, (blk_cell B6.out 2).trans rfl⟩ (fun hHeld => ?_)
          generalize w6.drew = w7 at HB B2 B6 BS X1 X2 B10 hHeld ⊢
          refine take_ (i := 0) (N := some 89) (v := ?_) (a' := ?_) #[true, false, false, false, false, false, false, false, false] rfl rfl (by kernel_rfl) (fun _ _ _ h => h) (Or.inl ⟨by rfl, ?_⟩) hHeld ?_ ?_
          rotate_left
          · rintro w' ⟨s0, s1, s2⟩
            go_simp
            with_reducible rfl
          rotate_left
          · simp only [Act.put, List.setIfInBounds_toArray, List.set_cons_zero, List.set_cons_succ, i64_w, i32_w]
            rfl
          refine pure_ (i := 1) (N := some 90) (v := ?_) (a' := ?_) #[true, true, false, false, false, false, false, false, false] rfl rfl (by kernel_rfl) (fun _ _ _ h => h) (Or.inl ⟨by rfl, ?_⟩) ?_ ?_
          rotate_left
          · intro w'
            go_simp
            with_reducible rfl
          rotate_left
          · simp only [Act.put, List.setIfInBounds_toArray, List.set_cons_zero, List.set_cons_succ, i64_w, i32_w]
            rfl
          refine one_ (i := 2) (N := some 91) #[true, true, true, false, false, false, false, false, false] rfl rfl (by kernel_rfl) (by decide) (fun K hK => ?_)
          refine goes_ Try.func31 (by kernel_rfl) rfl #[.pointer (some ⟨gS, 0, none⟩), .int .i64 20] (by rfl) rfl rfl (by (try simp only [List.map_toArray, List.map_cons, List.map_nil]); first | done | rfl) ?_
          refine (next_any gS A c L i8 20 _ BS.out (Kd.C_below HR.out HB.out) (by have := HLEN.out; omega) HI8.out (fun h1_ ad_ e_ => Nat.ne_of_lt (Nat.lt_of_lt_of_le (HF.out h1_ ad_ e_) GES.out)) (by omega) (by omega)).mono ?_
          rintro e w8 ⟨rfl, bs_, kb_, hb_⟩
          refine ⟨_, rfl, ?_⟩
          have n0_ := Aside0.mk (hb_ w HB.out GES.out)
          have n1_ := Aside0.mk (kb_.blk B2.out NE2S.out (by simp))
          have n2_ := Aside0.mk (kb_.blk B6.out NE6S.out (by simp))
          have n3_ := Aside0.mk bs_
          have n4_ := Aside0.mk (R_next X1.out BS.out kb_)
          have n5_ := Aside0.mk (R_next X2.out BS.out kb_)
          have n6_ := Aside0.mk (kb_.blk B10.out NES.out.symm (by simp))
          clear HB B2 B6 BS X1 X2 B10
          have HB := n0_
          have B2 := n1_
          have B6 := n2_
          have BS := n3_
          have X1 := n4_
          have X2 := n5_
          have B10 := n6_
          clear n0_ n1_ n2_ n3_ n4_ n5_ n6_
          clear bs_ kb_ hb_
          rw [HV.out]
          rw [HV2.out] at BS
          refine hK.out _ _ ⟨(blk_cell B6.out 0).trans rfl, (blk_cell B6.out 1).trans rfl, (blk_cell B6.out 2).trans rfl⟩ (fun hHeld => ?_)
          clear hK K
          refine norm_ (a' := ?_) ?_ ?_
          rotate_left
          · show Act.put _ (some 91) _ = _
            simp only [Act.put, List.setIfInBounds_toArray, List.set_cons_zero, List.set_cons_succ, i64_w, i32_w]
            rfl
          refine one_ (i := 3) (N := some 92) #[true, true, true, true, false, false, false, false, false] rfl rfl (by kernel_rfl) (by decide) (fun K hK => ?_)
          refine goes_ Try.func19 (by kernel_rfl) rfl #[.agg #[.int .i64 st.a, .slice Ax1 st.ws.length cx1, .slice Ax2 st.bs.length cx2], .int .i64 v20] (by rfl) rfl rfl (by (try simp only [List.map_toArray, List.map_cons, List.map_nil]); first | done | rfl) ?_
          refine (channel_Repeat.calls st.a _ _ st.ws _ _ st.bs v20 t1 t2 t3 t4 _ (Kd.R_reads' X1.out).2.2 (Kd.R_reads' X1.out).2.1 (Kd.R_reads' X2.out).2.2 (Kd.R_reads' X2.out).2.1 HT.out).mono ?_
          rintro e w9 ⟨v1_, v2_, rfl, ho1_, ho2_, hb_⟩
          refine ⟨_, rfl, ?_⟩
          have n0_ := Aside0.mk (below_step HB.out hb_)
          have n1_ := Aside0.mk (blk_below B2.out hb_)
          have n2_ := Aside0.mk (blk_below B6.out hb_)
          have n3_ := Aside0.mk (blk_below BS.out hb_)
          have n4_ := Aside0.mk (Kd.R_below X1.out hb_)
          have n5_ := Aside0.mk (Kd.R_below X2.out hb_)
          have n6_ := Aside0.mk (blk_below B10.out hb_)
          have Y1 := Aside0.mk (Kd.R_mono (Kd.R_lower ho1_ HB.out.size) (fun _ _ => trivial))
          have Y2 := Aside0.mk (Kd.R_mono (Kd.R_lower ho2_ HB.out.size) (fun _ _ => trivial))
          clear HB B2 B6 BS X1 X2 B10
          have HB := n0_
          have B2 := n1_
          have B6 := n2_
          have BS := n3_
          have X1 := n4_
          have X2 := n5_
          have B10 := n6_
          clear n0_ n1_ n2_ n3_ n4_ n5_ n6_
          clear hb_ ho1_ ho2_
          obtain ⟨Ay1, cy1, e1_⟩ := Kd.R_slice Y1.out
          subst e1_
          obtain ⟨Ay2, cy2, e2_⟩ := Kd.R_slice Y2.out
          subst e2_
          refine hK.out _ _ ⟨(blk_cell B6.out 0).trans rfl, (blk_cell B6.out 1).trans rfl, (blk_cell B6.out 2).trans rfl⟩ (fun hHeld => ?_)
          clear hK K
          refine norm_ (a' := ?_) ?_ ?_
          rotate_left
          · show Act.put _ (some 92) _ = _
            simp only [Act.put, List.setIfInBounds_toArray, List.set_cons_zero, List.set_cons_succ, i64_w, i32_w]
            rfl
          refine pure_ (i := 4) (N := some 88) (v := ?_) (a' := ?_) #[true, true, true, true, true, false, false, false, false] rfl rfl (by kernel_rfl) (fun _ _ _ h => h) (Or.inl ⟨by rfl, ?_⟩) ?_ ?_
          rotate_left
          · intro w'
            go_simp
            with_reducible rfl
          rotate_left
          · simp only [Act.put, List.setIfInBounds_toArray, List.set_cons_zero, List.set_cons_succ, i64_w, i32_w]
            rfl
          refine pure_ (i := 5) (N := some 93) (v := ?_) (a' := ?_) #[true, true, true, true, true, true, false, false, false] rfl rfl (by kernel_rfl) (fun _ _ _ h => h) (Or.inl ⟨by rfl, ?_⟩) ?_ ?_
          rotate_left
          · intro w'
            go_simp
            with_reducible rfl
          rotate_left
          · simp only [Act.put, List.setIfInBounds_toArray, List.set_cons_zero, List.set_cons_succ, i64_w, i32_w]
            rfl
          refine pure_ (i := 6) (N := some 94) (v := ?_) (a' := ?_) #[true, true, true, true, true, true, true, false, false] rfl rfl (by kernel_rfl) (fun _ _ _ h => h) (Or.inl ⟨by rfl, ?_⟩) ?_ ?_
          rotate_left
          · intro w'
            go_simp
            with_reducible rfl
          rotate_left
          · simp only [Act.put, List.setIfInBounds_toArray, List.set_cons_zero, List.set_cons_succ, i64_w, i32_w]
            rfl
          have hn5 := NE6.out
          have hn6 := NE6.out.symm
          have hdz_0 : w9.cell? ⟨g10, 0, none⟩ = some (.int .i64 st.a) := (blk_cell B10.out 0).trans rfl
          have hdz_1 : w9.cell? ⟨g10, 1, none⟩ = some (.slice Ax1 st.ws.length cx1) := (blk_cell B10.out 1).trans rfl
          have hdz_2 : w9.cell? ⟨g10, 2, none⟩ = some (.slice Ax2 st.bs.length cx2) := (blk_cell B10.out 2).trans rfl
          have hgz_0 := blk_frozen B10.out 0
          have hgz_1 := blk_frozen B10.out 1
          have hgz_2 := blk_frozen B10.out 2
          refine last_ (i := 7) (N := none) #[true, true, true, true, true, true, true, true, false] rfl rfl (by kernel_rfl) (by decide) (fun K hK => ?_)
          refine skip_ (w1 := ?_) (by rfl) rfl ?_ ?_
          rotate_left
          · go_simp
            rfl
          refine hK.out _ _ ?_
          clear hK K
          refine pure_ (i := 8) (N := some 12) (v := ?_) (a' := ?_) #[true, true, true, true, true, true, true, true, true] rfl rfl (by kernel_rfl) (fun _ _ _ h => h) (Or.inl ⟨by rfl, ?_⟩) ?_ ?_
          rotate_left
          · intro w'
            go_simp
            with_reducible rfl
          rotate_left
          · simp only [Act.put, List.setIfInBounds_toArray, List.set_cons_zero, List.set_cons_succ, i64_w, i32_w]
            rfl
          refine done_ (by kernel_rfl) ?_
          try go_wp2
          go_meet
          case rel => exact ⟨_, .slice Ay1 t2.length cy1, .slice Ay2 t3.length cy2, rfl, rfl, rfl, rfl, ⟨blk_far3 BS.out NES.out _ _ _⟩, ⟨blk_far3 B6.out NE6.out _ _ _⟩, ⟨blk_put3 B10.out _ _ _⟩, ⟨blk_far3 B2.out NE2.out _ _ _⟩, ⟨R_put3 X1.out B10.out _ _ _⟩, ⟨R_put3 X2.out B10.out _ _ _⟩, ⟨R_put3 Y1.out B10.out _ _ _⟩, ⟨R_put3 Y2.out B10.out _ _ _⟩, ⟨below_put3 HB.out GE10.out _ _ _⟩⟩
        · obtain ⟨u1, hu1⟩ : ∃ v, (nextP L i8 3).1 = v := ⟨_, rfl⟩
          obtain ⟨u2, hu2⟩ : ∃ v, (nextP L i8 3).2 = v := ⟨_, rfl⟩
          have HIU := Aside0.mk (show 0 ≤ u2 by have h7_ := HI8.out; rw [← hu2]; unfold nextP; split <;> (simp only; omega))
          by_cases hu : u1 = 0
          · have hm2 : m = midOf (nextP L u2 20).2 st.s st.r (forgetP st.a st.ws st.bs (nextP L u2 20).1) := by rw [← hm]; unfold midP; rw [hu1, hu2, if_neg (by omega), if_neg (by omega), if_neg (by omega), if_neg (by omega), if_neg (by omega), if_pos hu]
            clear hm
            have hm := hm2
            clear hm2
            have HU := Aside0.mk hu1
            have HU2 := Aside0.mk hu2
            clear hu1 hu2
            obtain ⟨v20, hv20⟩ : ∃ v, (nextP L u2 20).1 = v := ⟨_, rfl⟩
            obtain ⟨j20, hj20⟩ : ∃ v, (nextP L u2 20).2 = v := ⟨_, rfl⟩
            rw [hv20, hj20] at hm
            have HV := Aside0.mk hv20
            have HV2 := Aside0.mk hj20
            clear hv20 hj20
            obtain ⟨⟨t1, t2, t3, t4⟩, ht⟩ : ∃ t, forgetP st.a st.ws st.bs v20 = t := ⟨_, rfl⟩
            have hT := forget_ok st.a st.ws st.bs v20 (by unfold Fit; have := HI.out.ws; omega) (by unfold Fit; have := HI.out.bs; have := HI.out.i1; have := HLEN.out; omega)
            rw [ht] at hT hm
            have HT := Aside0.mk hT
            clear hT ht
            subst hm
            have hub : (u1 == 0) = true := beq_iff_eq.mpr hu
            clear hu
            go_wp2_with (first | ((with_reducible refine gate_callee (f := 31) rfl ?_); refine goesL_ (some 23) rfl rfl Try.func31 (by kernel_rfl) rfl #[.pointer (some ⟨gS, 0, none⟩), .int .i64 3] rfl (by (try simp only [List.map_toArray, List.map_cons, List.map_nil]); first | done | rfl) ?_; (with_reducible refine (next_any gS A c L i8 3 _ BS.out (Kd.C_below HR.out HB.out) ?s1 HI8.out ?s2 (by omega) (by omega)).mono ?_); (case s1 => have := HLEN.out; omega); (case s2 => exact fun h1_ ad_ e_ => Nat.ne_of_lt (Nat.lt_of_lt_of_le (HF.out h1_ ad_ e_) GES.out)); rintro e w6b ⟨rfl, bs_, kb_, hb_⟩; refine ⟨_, rfl, ?_⟩; have n0_ := Aside0.mk (hb_ w HB.out GES.out); have n1_ := Aside0.mk (kb_.blk B2.out NE2S.out (by simp)); have n2_ := Aside0.mk (kb_.blk B6.out NE6S.out (by simp)); have n3_ := Aside0.mk bs_; have n4_ := Aside0.mk (R_next X1.out BS.out kb_); have n5_ := Aside0.mk (R_next X2.out BS.out kb_); have n6_ := Aside0.mk (kb_.blk B10.out NES.out.symm (by simp)); clear HB B2 B6 BS X1 X2 B10; have HB := n0_; have B2 := n1_; have B6 := n2_; have BS := n3_; have X1 := n4_; have X2 := n5_; have B10 := n6_; clear n0_ n1_ n2_ n3_ n4_ n5_ n6_; clear bs_ kb_ hb_; rw [HU.out]; rw [HU2.out] at BS))
            have n0_ := Aside0.mk (below_drew1 HB.out)
            have n1_ := Aside0.mk (blk_drew B2.out)
            have n2_ := Aside0.mk (blk_drew B6.out)
            have n3_ := Aside0.mk (blk_drew BS.out)
            have n4_ := Aside0.mk (Kd.R_drew X1.out)
            have n5_ := Aside0.mk (Kd.R_drew X2.out)
            have n6_ := Aside0.mk (blk_drew B10.out)
            clear HB B2 B6 BS X1 X2 B10
            have HB := n0_
            have B2 := n1_
            have B6 := n2_
            have BS := n3_
            have X1 := n4_
            have X2 := n5_
            have B10 := n6_
            clear n0_ n1_ n2_ n3_ n4_ n5_ n6_
            refine start_ (n := 9) (S := fun w' => w'.cell? ⟨g6, 0, none⟩ = some (.int .i64 st.a) ∧ w'.cell? ⟨g6, 1, none⟩ = some (.slice Ax1 st.ws.length cx1) ∧ w'.cell? ⟨g6, 2, none⟩ = some (.slice Ax2 st.bs.length cx2)) (ds := [7]) #[false, false, false, false, false, false, false, false, false] (by kernel_rfl) rfl rfl ⟨(blk_cell B6.out 0).trans rfl, (blk_cell B6.out 1).trans rfl, (blk_cell B6.out 2).trans rfl⟩ (fun hHeld => ?_)
            generalize w6b.drew = w7 at HB B2 B6 BS X1 X2 B10 hHeld ⊢
            refine take_ (i := 0) (N := some 26) (v := ?_) (a' := ?_) #[true, false, false, false, false, false, false, false, false] rfl rfl (by kernel_rfl) (fun _ _ _ h => h) (Or.inl ⟨by rfl, ?_⟩) hHeld ?_ ?_
            rotate_left
            · rintro w' ⟨s0, s1, s2⟩
              go_simp
              with_reducible rfl
            rotate_left
            · simp only [Act.put, List.setIfInBounds_toArray, List.set_cons_zero, List.set_cons_succ, i64_w, i32_w]
              rfl
            refine pure_ (i := 1) (N := some 27) (v := ?_) (a' := ?_) #[true, true, false, false, false, false, false, false, false] rfl rfl (by kernel_rfl) (fun _ _ _ h => h) (Or.inl ⟨by rfl, ?_⟩) ?_ ?_
            rotate_left
            · intro w'
              go_simp
              with_reducible rfl
            rotate_left
            · simp only [Act.put, List.setIfInBounds_toArray, List.set_cons_zero, List.set_cons_succ, i64_w, i32_w]
              rfl
            refine one_ (i := 2) (N := some 28) #[true, true, true, false, false, false, false, false, false] rfl rfl (by kernel_rfl) (by decide) (fun K hK => ?_)
            refine goes_ Try.func31 (by kernel_rfl) rfl #[.pointer (some ⟨gS, 0, none⟩), .int .i64 20] (by rfl) rfl rfl (by (try simp only [List.map_toArray, List.map_cons, List.map_nil]); first | done | rfl) ?_
            refine (next_any gS A c L u2 20 _ BS.out (Kd.C_below HR.out HB.out) (by have := HLEN.out; omega) HIU.out (fun h1_ ad_ e_ => Nat.ne_of_lt (Nat.lt_of_lt_of_le (HF.out h1_ ad_ e_) GES.out)) (by omega) (by omega)).mono ?_
            rintro e w8 ⟨rfl, bs_, kb_, hb_⟩
            refine ⟨_, rfl, ?_⟩
            have n0_ := Aside0.mk (hb_ w HB.out GES.out)
            have n1_ := Aside0.mk (kb_.blk B2.out NE2S.out (by simp))
            have n2_ := Aside0.mk (kb_.blk B6.out NE6S.out (by simp))
            have n3_ := Aside0.mk bs_
            have n4_ := Aside0.mk (R_next X1.out BS.out kb_)
            have n5_ := Aside0.mk (R_next X2.out BS.out kb_)
            have n6_ := Aside0.mk (kb_.blk B10.out NES.out.symm (by simp))
            clear HB B2 B6 BS X1 X2 B10
            have HB := n0_
            have B2 := n1_
            have B6 := n2_
            have BS := n3_
            have X1 := n4_
            have X2 := n5_
            have B10 := n6_
            clear n0_ n1_ n2_ n3_ n4_ n5_ n6_
            clear bs_ kb_ hb_
            rw [HV.out]
            rw [HV2.out] at BS
            refine hK.out _ _ ⟨(blk_cell B6.out 0).trans rfl, (blk_cell B6.out 1).trans rfl, (blk_cell B6.out 2).trans rfl⟩ (fun hHeld => ?_)
            clear hK K
            refine norm_ (a' := ?_) ?_ ?_
            rotate_left
            · show Act.put _ (some 28) _ = _
              simp only [Act.put, List.setIfInBounds_toArray, List.set_cons_zero, List.set_cons_succ, i64_w, i32_w]
              rfl
            refine one_ (i := 3) (N := some 29) #[true, true, true, true, false, false, false, false, false] rfl rfl (by kernel_rfl) (by decide) (fun K hK => ?_)
            refine goes_ Try.func23 (by kernel_rfl) rfl #[.agg #[.int .i64 st.a, .slice Ax1 st.ws.length cx1, .slice Ax2 st.bs.length cx2], .int .i64 v20] (by rfl) rfl rfl (by (try simp only [List.map_toArray, List.map_cons, List.map_nil]); first | done | rfl) ?_
            refine (channel_Forget.calls st.a _ _ st.ws _ _ st.bs v20 t1 t2 t3 t4 _ (Kd.R_reads' X1.out).2.2 (Kd.R_reads' X1.out).2.1 (Kd.R_reads' X2.out).2.2 (Kd.R_reads' X2.out).2.1 HT.out).mono ?_
            rintro e w9 ⟨v1_, v2_, rfl, ho1_, ho2_, hb_⟩
            refine ⟨_, rfl, ?_⟩
            have n0_ := Aside0.mk (below_step HB.out hb_)
            have n1_ := Aside0.mk (blk_below B2.out hb_)
            have n2_ := Aside0.mk (blk_below B6.out hb_)
            have n3_ := Aside0.mk (blk_below BS.out hb_)
            have n4_ := Aside0.mk (Kd.R_below X1.out hb_)
            have n5_ := Aside0.mk (Kd.R_below X2.out hb_)
            have n6_ := Aside0.mk (blk_below B10.out hb_)
            have Y1 := Aside0.mk (Kd.R_mono (Kd.R_lower ho1_ HB.out.size) (fun _ _ => trivial))
            have Y2 := Aside0.mk (Kd.R_mono (Kd.R_lower ho2_ HB.out.size) (fun _ _ => trivial))
            clear HB B2 B6 BS X1 X2 B10
            have HB := n0_
            have B2 := n1_
            have B6 := n2_
            have BS := n3_
            have X1 := n4_
            have X2 := n5_
            have B10 := n6_
            clear n0_ n1_ n2_ n3_ n4_ n5_ n6_
            clear hb_ ho1_ ho2_
            obtain ⟨Ay1, cy1, e1_⟩ := Kd.R_slice Y1.out
            subst e1_
            obtain ⟨Ay2, cy2, e2_⟩ := Kd.R_slice Y2.out
            subst e2_
            refine hK.out _ _ ⟨(blk_cell B6.out 0).trans rfl, (blk_cell B6.out 1).trans rfl, (blk_cell B6.out 2).trans rfl⟩ (fun hHeld => ?_)
            clear hK K
            refine norm_ (a' := ?_) ?_ ?_
            rotate_left
            · show Act.put _ (some 29) _ = _
              simp only [Act.put, List.setIfInBounds_toArray, List.set_cons_zero, List.set_cons_succ, i64_w, i32_w]
              rfl
            refine pure_ (i := 4) (N := some 25) (v := ?_) (a' := ?_) #[true, true, true, true, true, false, false, false, false] rfl rfl (by kernel_rfl) (fun _ _ _ h => h) (Or.inl ⟨by rfl, ?_⟩) ?_ ?_
            rotate_left
            · intro w'
              go_simp
              with_reducible rfl
            rotate_left
            · simp only [Act.put, List.setIfInBounds_toArray, List.set_cons_zero, List.set_cons_succ, i64_w, i32_w]
              rfl
            refine pure_ (i := 5) (N := some 30) (v := ?_) (a' := ?_) #[true, true, true, true, true, true, false, false, false] rfl rfl (by kernel_rfl) (fun _ _ _ h => h) (Or.inl ⟨by rfl, ?_⟩) ?_ ?_
            rotate_left
            · intro w'
              go_simp
              with_reducible rfl
            rotate_left
            · simp only [Act.put, List.setIfInBounds_toArray, List.set_cons_zero, List.set_cons_succ, i64_w, i32_w]
              rfl
            refine pure_ (i := 6) (N := some 31) (v := ?_) (a' := ?_) #[true, true, true, true, true, true, true, false, false] rfl rfl (by kernel_rfl) (fun _ _ _ h => h) (Or.inl ⟨by rfl, ?_⟩) ?_ ?_
            rotate_left
            · intro w'
              go_simp
              with_reducible rfl
            rotate_left
            · simp only [Act.put, List.setIfInBounds_toArray, List.set_cons_zero, List.set_cons_succ, i64_w, i32_w]
              rfl
            have hn5 := NE6.out
            have hn6 := NE6.out.symm
            have hdz_0 : w9.cell? ⟨g10, 0, none⟩ = some (.int .i64 st.a) := (blk_cell B10.out 0).trans rfl
            have hdz_1 : w9.cell? ⟨g10, 1, none⟩ = some (.slice Ax1 st.ws.length cx1) := (blk_cell B10.out 1).trans rfl
            have hdz_2 : w9.cell? ⟨g10, 2, none⟩ = some (.slice Ax2 st.bs.length cx2) := (blk_cell B10.out 2).trans rfl
            have hgz_0 := blk_frozen B10.out 0
            have hgz_1 := blk_frozen B10.out 1
            have hgz_2 := blk_frozen B10.out 2
            refine last_ (i := 7) (N := none) #[true, true, true, true, true, true, true, true, false] rfl rfl (by kernel_rfl) (by decide) (fun K hK => ?_)
            refine skip_ (w1 := ?_) (by rfl) rfl ?_ ?_
            rotate_left
            · go_simp
              rfl
            refine hK.out _ _ ?_
            clear hK K
            refine pure_ (i := 8) (N := some 12) (v := ?_) (a' := ?_) #[true, true, true, true, true, true, true, true, true] rfl rfl (by kernel_rfl) (fun _ _ _ h => h) (Or.inl ⟨by rfl, ?_⟩) ?_ ?_
            rotate_left
            · intro w'
              go_simp
              with_reducible rfl
            rotate_left
            · simp only [Act.put, List.setIfInBounds_toArray, List.set_cons_zero, List.set_cons_succ, i64_w, i32_w]
              rfl
            refine done_ (by kernel_rfl) ?_
            try go_wp2
            go_meet
            case rel => exact ⟨_, .slice Ay1 t2.length cy1, .slice Ay2 t3.length cy2, rfl, rfl, rfl, rfl, ⟨blk_far3 BS.out NES.out _ _ _⟩, ⟨blk_far3 B6.out NE6.out _ _ _⟩, ⟨blk_put3 B10.out _ _ _⟩, ⟨blk_far3 B2.out NE2.out _ _ _⟩, ⟨R_put3 X1.out B10.out _ _ _⟩, ⟨R_put3 X2.out B10.out _ _ _⟩, ⟨R_put3 Y1.out B10.out _ _ _⟩, ⟨R_put3 Y2.out B10.out _ _ _⟩, ⟨below_put3 HB.out GE10.out _ _ _⟩⟩
          · have hm2 : m = midOf (nextP L u2 20).2 st.s st.r (confirmP st.a st.ws st.bs (nextP L u2 20).1) := by rw [← hm]; unfold midP; rw [hu1, hu2, if_neg (by omega), if_neg (by omega), if_neg (by omega), if_neg (by omega), if_neg (by omega), if_neg hu]
            clear hm
            have hm := hm2
            clear hm2
            have HU := Aside0.mk hu1
            have HU2 := Aside0.mk hu2
            clear hu1 hu2
            obtain ⟨v20, hv20⟩ : ∃ v, (nextP L u2 20).1 = v := ⟨_, rfl⟩
            obtain ⟨j20, hj20⟩ : ∃ v, (nextP L u2 20).2 = v := ⟨_, rfl⟩
            rw [hv20, hj20] at hm
            have HV := Aside0.mk hv20
            have HV2 := Aside0.mk hj20
            clear hv20 hj20
            obtain ⟨⟨t1, t2, t3, t4⟩, ht⟩ : ∃ t, confirmP st.a st.ws st.bs v20 = t := ⟨_, rfl⟩
            have hT := confirm_ok st.a st.ws st.bs v20 (by unfold Fit; have := HI.out.ws; omega) (by unfold Fit; have := HI.out.bs; have := HI.out.i1; have := HLEN.out; omega)
            rw [ht] at hT hm
            have HT := Aside0.mk hT
            clear hT ht
            subst hm
            have hub : (u1 == 0) = false := beq_eq_false_iff_ne.mpr hu
            clear hu
            go_wp2_with (first | ((with_reducible refine gate_callee (f := 31) rfl ?_); refine goesL_ (some 23) rfl rfl Try.func31 (by kernel_rfl) rfl #[.pointer (some ⟨gS, 0, none⟩), .int .i64 3] rfl (by (try simp only [List.map_toArray, List.map_cons, List.map_nil]); first | done | rfl) ?_; (with_reducible refine (next_any gS A c L i8 3 _ BS.out (Kd.C_below HR.out HB.out) ?s1 HI8.out ?s2 (by omega) (by omega)).mono ?_); (case s1 => have := HLEN.out; omega); (case s2 => exact fun h1_ ad_ e_ => Nat.ne_of_lt (Nat.lt_of_lt_of_le (HF.out h1_ ad_ e_) GES.out)); rintro e w6b ⟨rfl, bs_, kb_, hb_⟩; refine ⟨_, rfl, ?_⟩; have n0_ := Aside0.mk (hb_ w HB.out GES.out); have n1_ := Aside0.mk (kb_.blk B2.out NE2S.out (by simp)); have n2_ := Aside0.mk (kb_.blk B6.out NE6S.out (by simp)); have n3_ := Aside0.mk bs_; have n4_ := Aside0.mk (R_next X1.out BS.out kb_); have n5_ := Aside0.mk (R_next X2.out BS.out kb_); have n6_ := Aside0.mk (kb_.blk B10.out NES.out.symm (by simp)); clear HB B2 B6 BS X1 X2 B10; have HB := n0_; have B2 := n1_; have B6 := n2_; have BS := n3_; have X1 := n4_; have X2 := n5_; have B10 := n6_; clear n0_ n1_ n2_ n3_ n4_ n5_ n6_; clear bs_ kb_ hb_; rw [HU.out]; rw [HU2.out] at BS))
            have n0_ := Aside0.mk (below_drew1 HB.out)
            have n1_ := Aside0.mk (blk_drew B2.out)
            have n2_ := Aside0.mk (blk_drew B6.out)
            have n3_ := Aside0.mk (blk_drew BS.out)
            have n4_ := Aside0.mk (Kd.R_drew X1.out)
            have n5_ := Aside0.mk (Kd.R_drew X2.out)
            have n6_ := Aside0.mk (blk_drew B10.out)
            clear HB B2 B6 BS X1 X2 B10
            have HB := n0_
            have B2 := n1_
            have B6 := n2_
            have BS := n3_
            have X1 := n4_
            have X2 := n5_
            have B10 := n6_
            clear n0_ n1_ n2_ n3_ n4_ n5_ n6_
            refine start_ (n := 9) (S := fun w' => w'.cell? ⟨g6, 0, none⟩ = some (.int .i64 st.a) ∧ w'.cell? ⟨g6, 1, none⟩ = some (.slice Ax1 st.ws.length cx1) ∧ w'.cell? ⟨g6, 2, none⟩ = some (.slice Ax2 st.bs.length cx2)) (ds := [7]) #[false, false, false, false, false, false, false, false, false] (by kernel_rfl) rfl rfl ⟨(blk_cell B6.out 0).trans rfl, (blk_cell B6.out 1).trans rfl, (blk_cell B6.out 2).trans rfl⟩ (fun hHeld => ?_)
            generalize w6b.drew = w7 at HB B2 B6 BS X1 X2 B10 hHeld ⊢
            refine take_ (i := 0) (N := some 33) (v := ?_) (a' := ?_) #[true, false, false, false, false, false, false, false, false] rfl rfl (by kernel_rfl) (fun _ _ _ h => h) (Or.inl ⟨by rfl, ?_⟩) hHeld ?_ ?_
            rotate_left
            · rintro w' ⟨s0, s1, s2⟩
              go_simp
              with_reducible rfl
            rotate_left
            · simp only [Act.put, List.setIfInBounds_toArray, List.set_cons_zero, List.set_cons_succ, i64_w, i32_w]
              rfl
            refine pure_ (i := 1) (N := some 34) (v := ?_) (a' := ?_) #[true, true, false, false, false, false, false, false, false] rfl rfl (by kernel_rfl) (fun _ _ _ h => h) (Or.inl ⟨by rfl, ?_⟩) ?_ ?_
            rotate_left
            · intro w'
              go_simp
              with_reducible rfl
            rotate_left
            · simp only [Act.put, List.setIfInBounds_toArray, List.set_cons_zero, List.set_cons_succ, i64_w, i32_w]
              rfl
            refine one_ (i := 2) (N := some 35) #[true, true, true, false, false, false, false, false, false] rfl rfl (by kernel_rfl) (by decide) (fun K hK => ?_)
            refine goes_ Try.func31 (by kernel_rfl) rfl #[.pointer (some ⟨gS, 0, none⟩), .int .i64 20] (by rfl) rfl rfl (by (try simp only [List.map_toArray, List.map_cons, List.map_nil]); first | done | rfl) ?_
            refine (next_any gS A c L u2 20 _ BS.out (Kd.C_below HR.out HB.out) (by have := HLEN.out; omega) HIU.out (fun h1_ ad_ e_ => Nat.ne_of_lt (Nat.lt_of_lt_of_le (HF.out h1_ ad_ e_) GES.out)) (by omega) (by omega)).mono ?_
            rintro e w8 ⟨rfl, bs_, kb_, hb_⟩
            refine ⟨_, rfl, ?_⟩
            have n0_ := Aside0.mk (hb_ w HB.out GES.out)
            have n1_ := Aside0.mk (kb_.blk B2.out NE2S.out (by simp))
            have n2_ := Aside0.mk (kb_.blk B6.out NE6S.out (by simp))
            have n3_ := Aside0.mk bs_
            have n4_ := Aside0.mk (R_next X1.out BS.out kb_)
            have n5_ := Aside0.mk (R_next X2.out BS.out kb_)
            have n6_ := Aside0.mk (kb_.blk B10.out NES.out.symm (by simp))
            clear HB B2 B6 BS X1 X2 B10
            have HB := n0_
            have B2 := n1_
            have B6 := n2_
            have BS := n3_
            have X1 := n4_
            have X2 := n5_
            have B10 := n6_
            clear n0_ n1_ n2_ n3_ n4_ n5_ n6_
            clear bs_ kb_ hb_
            rw [HV.out]
            rw [HV2.out] at BS
            refine hK.out _ _ ⟨(blk_cell B6.out 0).trans rfl, (blk_cell B6.out 1).trans rfl, (blk_cell B6.out 2).trans rfl⟩ (fun hHeld => ?_)
            clear hK K
            refine norm_ (a' := ?_) ?_ ?_
            rotate_left
            · show Act.put _ (some 35) _ = _
              simp only [Act.put, List.setIfInBounds_toArray, List.set_cons_zero, List.set_cons_succ, i64_w, i32_w]
              rfl
            refine one_ (i := 3) (N := some 36) #[true, true, true, true, false, false, false, false, false] rfl rfl (by kernel_rfl) (by decide) (fun K hK => ?_)
            refine goes_ Try.func21 (by kernel_rfl) rfl #[.agg #[.int .i64 st.a, .slice Ax1 st.ws.length cx1, .slice Ax2 st.bs.length cx2], .int .i64 v20] (by rfl) rfl rfl (by (try simp only [List.map_toArray, List.map_cons, List.map_nil]); first | done | rfl) ?_
            refine (channel_Confirm.calls st.a _ _ st.ws _ _ st.bs v20 t1 t2 t3 t4 _ (Kd.R_reads' X1.out).2.2 (Kd.R_reads' X1.out).2.1 (Kd.R_reads' X2.out).2.2 (Kd.R_reads' X2.out).2.1 HT.out).mono ?_
            rintro e w9 ⟨v1_, v2_, rfl, ho1_, ho2_, hb_⟩
            refine ⟨_, rfl, ?_⟩
            have n0_ := Aside0.mk (below_step HB.out hb_)
            have n1_ := Aside0.mk (blk_below B2.out hb_)
            have n2_ := Aside0.mk (blk_below B6.out hb_)
            have n3_ := Aside0.mk (blk_below BS.out hb_)
            have n4_ := Aside0.mk (Kd.R_below X1.out hb_)
            have n5_ := Aside0.mk (Kd.R_below X2.out hb_)
            have n6_ := Aside0.mk (blk_below B10.out hb_)
            have Y1 := Aside0.mk (Kd.R_mono (Kd.R_lower ho1_ HB.out.size) (fun _ _ => trivial))
            have Y2 := Aside0.mk (Kd.R_mono (Kd.R_lower ho2_ HB.out.size) (fun _ _ => trivial))
            clear HB B2 B6 BS X1 X2 B10
            have HB := n0_
            have B2 := n1_
            have B6 := n2_
            have BS := n3_
            have X1 := n4_
            have X2 := n5_
            have B10 := n6_
            clear n0_ n1_ n2_ n3_ n4_ n5_ n6_
            clear hb_ ho1_ ho2_
            obtain ⟨Ay1, cy1, e1_⟩ := Kd.R_slice Y1.out
            subst e1_
            obtain ⟨Ay2, cy2, e2_⟩ := Kd.R_slice Y2.out
            subst e2_
            refine hK.out _ _ ⟨(blk_cell B6.out 0).trans rfl, (blk_cell B6.out 1).trans rfl, (blk_cell B6.out 2).trans rfl⟩ (fun hHeld => ?_)
            clear hK K
            refine norm_ (a' := ?_) ?_ ?_
            rotate_left
            · show Act.put _ (some 36) _ = _
              simp only [Act.put, List.setIfInBounds_toArray, List.set_cons_zero, List.set_cons_succ, i64_w, i32_w]
              rfl
            refine pure_ (i := 4) (N := some 32) (v := ?_) (a' := ?_) #[true, true, true, true, true, false, false, false, false] rfl rfl (by kernel_rfl) (fun _ _ _ h => h) (Or.inl ⟨by rfl, ?_⟩) ?_ ?_
            rotate_left
            · intro w'
              go_simp
              with_reducible rfl
            rotate_left
            · simp only [Act.put, List.setIfInBounds_toArray, List.set_cons_zero, List.set_cons_succ, i64_w, i32_w]
              rfl
            refine pure_ (i := 5) (N := some 37) (v := ?_) (a' := ?_) #[true, true, true, true, true, true, false, false, false] rfl rfl (by kernel_rfl) (fun _ _ _ h => h) (Or.inl ⟨by rfl, ?_⟩) ?_ ?_
            rotate_left
            · intro w'
              go_simp
              with_reducible rfl
            rotate_left
            · simp only [Act.put, List.setIfInBounds_toArray, List.set_cons_zero, List.set_cons_succ, i64_w, i32_w]
              rfl
            refine pure_ (i := 6) (N := some 38) (v := ?_) (a' := ?_) #[true, true, true, true, true, true, true, false, false] rfl rfl (by kernel_rfl) (fun _ _ _ h => h) (Or.inl ⟨by rfl, ?_⟩) ?_ ?_
            rotate_left
            · intro w'
              go_simp
              with_reducible rfl
            rotate_left
            · simp only [Act.put, List.setIfInBounds_toArray, List.set_cons_zero, List.set_cons_succ, i64_w, i32_w]
              rfl
            have hn5 := NE6.out
            have hn6 := NE6.out.symm
            have hdz_0 : w9.cell? ⟨g10, 0, none⟩ = some (.int .i64 st.a) := (blk_cell B10.out 0).trans rfl
            have hdz_1 : w9.cell? ⟨g10, 1, none⟩ = some (.slice Ax1 st.ws.length cx1) := (blk_cell B10.out 1).trans rfl
            have hdz_2 : w9.cell? ⟨g10, 2, none⟩ = some (.slice Ax2 st.bs.length cx2) := (blk_cell B10.out 2).trans rfl
            have hgz_0 := blk_frozen B10.out 0
            have hgz_1 := blk_frozen B10.out 1
            have hgz_2 := blk_frozen B10.out 2
            refine last_ (i := 7) (N := none) #[true, true, true, true, true, true, true, true, false] rfl rfl (by kernel_rfl) (by decide) (fun K hK => ?_)
            refine skip_ (w1 := ?_) (by rfl) rfl ?_ ?_
            rotate_left
            · go_simp
              rfl
            refine hK.out _ _ ?_
            clear hK K
            refine pure_ (i := 8) (N := some 12) (v := ?_) (a' := ?_) #[true, true, true, true, true, true, true, true, true] rfl rfl (by kernel_rfl) (fun _ _ _ h => h) (Or.inl ⟨by rfl, ?_⟩) ?_ ?_
            rotate_left
            · intro w'
              go_simp
              with_reducible rfl
            rotate_left
            · simp only [Act.put, List.setIfInBounds_toArray, List.set_cons_zero, List.set_cons_succ, i64_w, i32_w]
              rfl
            refine done_ (by kernel_rfl) ?_
            try go_wp2
            go_meet
            case rel => exact ⟨_, .slice Ay1 t2.length cy1, .slice Ay2 t3.length cy2, rfl, rfl, rfl, rfl, ⟨blk_far3 BS.out NES.out _ _ _⟩, ⟨blk_far3 B6.out NE6.out _ _ _⟩, ⟨blk_put3 B10.out _ _ _⟩, ⟨blk_far3 B2.out NE2.out _ _ _⟩, ⟨R_put3 X1.out B10.out _ _ _⟩, ⟨R_put3 X2.out B10.out _ _ _⟩, ⟨R_put3 Y1.out B10.out _ _ _⟩, ⟨R_put3 Y2.out B10.out _ _ _⟩, ⟨below_put3 HB.out GE10.out _ _ _⟩⟩
      case rest => as_aux_lemma =>
        clear BS B6 B2 X1 X2 HB B10 HM HX8
        obtain ⟨n, uy1, uy2, rfl, rfl, rfl, rfl, BS, B6, B10, B2, X1, X2, Y1, Y2, HB⟩ := hcut
        obtain ⟨Ay1, cy1, e1⟩ := Kd.R_slice Y1.out
        subst e1
        obtain ⟨Ay2, cy2, e2⟩ := Kd.R_slice Y2.out
        subst e2
        have hsi := step_inv L st HI.out HIL.out
        rw [HStep.out] at hsi
        have HI2 := Aside0.mk hsi
        clear hsi
        have hcz_0 : wc.cell? ⟨g6, 0, none⟩ = some (.int .i64 st.a) := (blk_cell B6.out 0).trans rfl
        have hcz_1 : wc.cell? ⟨g6, 1, none⟩ = some (.slice Ax1 st.ws.length cx1) := (blk_cell B6.out 1).trans rfl
        have hcz_2 : wc.cell? ⟨g6, 2, none⟩ = some (.slice Ax2 st.bs.length cx2) := (blk_cell B6.out 2).trans rfl
        have hfz_0 := blk_frozen B6.out 0
        have hfz_1 := blk_frozen B6.out 1
        have hfz_2 := blk_frozen B6.out 2
        have hdz_0 : wc.cell? ⟨g10, 0, none⟩ = some (.int .i64 m.a) := (blk_cell B10.out 0).trans rfl
        have hdz_1 : wc.cell? ⟨g10, 1, none⟩ = some (.slice Ay1 m.ws.length cy1) := (blk_cell B10.out 1).trans rfl
        have hdz_2 : wc.cell? ⟨g10, 2, none⟩ = some (.slice Ay2 m.bs.length cy2) := (blk_cell B10.out 2).trans rfl
        have hez_0 : wc.cell? ⟨g2, 0, none⟩ = some (.int .i64 0) := (blk_cell B2.out 0).trans rfl
        have hez_1 : wc.cell? ⟨g2, 1, none⟩ = some (.slice none 0 0) := (blk_cell B2.out 1).trans rfl
        have hez_2 : wc.cell? ⟨g2, 2, none⟩ = some (.slice none 0 0) := (blk_cell B2.out 2).trans rfl
        have hgz_0 := blk_frozen B2.out 0
        have hgz_1 := blk_frozen B2.out 1
        have hgz_2 := blk_frozen B2.out 2
        have hn1 := NE26.out
        have hn2 := NE26.out.symm
        have hn3 := NE6.out
        have hn4 := NE6.out.symm
        have hn5 := NE2.out
        have hn6 := NE2.out.symm
        by_cases he : m.e = 0
        · have heq : endP st m = ⟨m.i, m.a, m.s, m.r, m.ws, m.bs⟩ := if_pos he
          rw [heq] at HSt HI2
          have heb : (m.e == 0) = true := beq_iff_eq.mpr he
          have hec : (m.e != 0) = false := bne_eq_false_iff_eq.mpr he
          clear he heq
          by_cases h1 : m.a > m.r
          · have h1b : decide (m.r < m.a) = true := decide_eq_true h1
            have hz := HSt.out
            rw [if_pos h1] at hz
            simp only [Prod.mk.injEq] at hz
            obtain ⟨rfl, rfl⟩ := hz
            go_wp2
            refine bodyPost_ret (results_cttt rfl _ _ g2 24 #[.int .i64 m.a, .slice Ay1 m.ws.length cy1, .slice Ay2 m.bs.length cy2] (0, 0) _ rfl (blk_put3 (blk_far3 B2.out NE26.out _ _ _) _ _ _) Try.underlying24 rfl (by kernel_rfl)) rfl ?_
            exact ⟨_, _, rfl, R_put3 (R_put3 Y1.out B6.out _ _ _) (blk_far3 B2.out NE26.out _ _ _) _ _ _, R_put3 (R_put3 Y2.out B6.out _ _ _) (blk_far3 B2.out NE26.out _ _ _) _ _ _, below_put3 (below_put3 HB.out GE6.out _ _ _) GE2.out _ _ _⟩
          · have h1b : decide (m.r < m.a) = false := decide_eq_false h1
            by_cases h2 : m.r > m.s
            · have h2b : decide (m.s < m.r) = true := decide_eq_true h2
              have hz := HSt.out
              rw [if_neg h1, if_pos h2] at hz
              simp only [Prod.mk.injEq] at hz
              obtain ⟨rfl, rfl⟩ := hz
              go_wp2
              refine bodyPost_ret (results_cttt rfl _ _ g2 24 #[.int .i64 m.a, .slice Ay1 m.ws.length cy1, .slice Ay2 m.bs.length cy2] (0, 0) _ rfl (blk_put3 (blk_far3 B2.out NE26.out _ _ _) _ _ _) Try.underlying24 rfl (by kernel_rfl)) rfl ?_
              exact ⟨_, _, rfl, R_put3 (R_put3 Y1.out B6.out _ _ _) (blk_far3 B2.out NE26.out _ _ _) _ _ _, R_put3 (R_put3 Y2.out B6.out _ _ _) (blk_far3 B2.out NE26.out _ _ _) _ _ _, below_put3 (below_put3 HB.out GE6.out _ _ _) GE2.out _ _ _⟩
            · have h2b : decide (m.s < m.r) = false := decide_eq_false h2
              have hz := HSt.out
              rw [if_neg h1, if_neg h2] at hz
              have HZ := Aside0.mk hz
              clear hz h1 h2 HSt
              go_wp2
              go_roundg k
              case measure => exact Nat.lt_succ_self k
              case rel => exact ⟨⟨m.i, m.a, m.s, m.r, m.ws, m.bs⟩, .slice Ay1 m.ws.length cy1, .slice Ay2 m.bs.length cy2, rfl, rfl, ⟨HI2.out.1⟩, HZ, ⟨by have h9_ : st.i < m.i := HI2.out.2; have h8_ := HK.out; show (L.length : Int) < m.i + (k : Int); omega⟩, ⟨(blk_far3 BS.out NE6S.out.symm _ _ _)⟩, ⟨(blk_put3 B6.out _ _ _)⟩, ⟨(blk_far3 B2.out NE26.out _ _ _)⟩, ⟨(R_put3 Y1.out B6.out _ _ _)⟩, ⟨(R_put3 Y2.out B6.out _ _ _)⟩, ⟨(below_put3 HB.out GE6.out _ _ _)⟩⟩
        · have heq : endP st m = ⟨m.i, st.a, m.s, m.r, st.ws, st.bs⟩ := if_neg he
          rw [heq] at HSt HI2
          have heb : (m.e == 0) = false := beq_eq_false_iff_ne.mpr he
          have hec : (m.e != 0) = true := bne_iff_ne.mpr he
          clear he heq
          by_cases h1 : st.a > m.r
          · have h1b : decide (m.r < st.a) = true := decide_eq_true h1
            have hz := HSt.out
            rw [if_pos h1] at hz
            simp only [Prod.mk.injEq] at hz
            obtain ⟨rfl, rfl⟩ := hz
            go_wp2
            refine bodyPost_ret (results_cttt rfl _ _ g2 24 #[.int .i64 st.a, .slice Ax1 st.ws.length cx1, .slice Ax2 st.bs.length cx2] (0, 0) _ rfl (blk_put3 B2.out _ _ _) Try.underlying24 rfl (by kernel_rfl)) rfl ?_
            exact ⟨_, _, rfl, R_put3 X1.out B2.out _ _ _, R_put3 X2.out B2.out _ _ _, below_put3 HB.out GE2.out _ _ _⟩
          · have h1b : decide (m.r < st.a) = false := decide_eq_false h1
            by_cases h2 : m.r > m.s
            · have h2b : decide (m.s < m.r) = true := decide_eq_true h2
              have hz := HSt.out
              rw [if_neg h1, if_pos h2] at hz
              simp only [Prod.mk.injEq] at hz
              obtain ⟨rfl, rfl⟩ := hz
              go_wp2
              refine bodyPost_ret (results_cttt rfl _ _ g2 24 #[.int .i64 st.a, .slice Ax1 st.ws.length cx1, .slice Ax2 st.bs.length cx2] (0, 0) _ rfl (blk_put3 B2.out _ _ _) Try.underlying24 rfl (by kernel_rfl)) rfl ?_
              exact ⟨_, _, rfl, R_put3 X1.out B2.out _ _ _, R_put3 X2.out B2.out _ _ _, below_put3 HB.out GE2.out _ _ _⟩
            · have h2b : decide (m.s < m.r) = false := decide_eq_false h2
              have hz := HSt.out
              rw [if_neg h1, if_neg h2] at hz
              have HZ := Aside0.mk hz
              clear hz h1 h2 HSt
              go_wp2
              go_roundg k
              case measure => exact Nat.lt_succ_self k
              case rel => exact ⟨⟨m.i, st.a, m.s, m.r, st.ws, st.bs⟩, .slice Ax1 st.ws.length cx1, .slice Ax2 st.bs.length cx2, rfl, rfl, ⟨HI2.out.1⟩, HZ, ⟨by have h9_ : st.i < m.i := HI2.out.2; have h8_ := HK.out; show (L.length : Int) < m.i + (k : Int); omega⟩, ⟨BS.out⟩, ⟨B6.out⟩, ⟨B2.out⟩, ⟨X1.out⟩, ⟨X2.out⟩, ⟨HB.out⟩⟩
    · have hz := runP_end L k st _ hi HRun.out
      simp only [Prod.mk.injEq] at hz
      obtain ⟨rfl, rfl⟩ := hz
      have hib : decide (st.i < (L.length : Int)) = false := decide_eq_false hi
      clear hi HRun
      have hez_0 : wr.cell? ⟨g2, 0, none⟩ = some (.int .i64 0) := (blk_cell B2.out 0).trans rfl
      have hez_1 : wr.cell? ⟨g2, 1, none⟩ = some (.slice none 0 0) := (blk_cell B2.out 1).trans rfl
      have hez_2 : wr.cell? ⟨g2, 2, none⟩ = some (.slice none 0 0) := (blk_cell B2.out 2).trans rfl
      have hgz_0 := blk_frozen B2.out 0
      have hgz_1 := blk_frozen B2.out 1
      have hgz_2 := blk_frozen B2.out 2
      have hn1 := NE26.out
      have hn2 := NE26.out.symm
      go_wp2_with (first | ((with_reducible refine gate_callee (f := 30) rfl ?_); refine goesL_ (some 18) rfl rfl Try.func30 (by kernel_rfl) rfl #[.pointer (some ⟨gS, 0, none⟩)] rfl (by (try simp only [List.map_toArray, List.map_cons, List.map_nil]); first | done | rfl) ?_; (with_reducible refine (left_is gS A L.length c st.i false _ hib ?s0 ?s1).mono ?_); (case s0 => exact (blk_cell BS.out 0).trans rfl); (case s1 => exact (blk_cell BS.out 1).trans rfl); rintro e w' ⟨rfl, ⟨nd, rfl⟩⟩; refine ⟨_, rfl, ?_⟩))
      refine bodyPost_ret (results_cttt rfl _ _ g2 24 #[.int .i64 st.a, .slice Ax1 st.ws.length cx1, .slice Ax2 st.bs.length cx2] (0, 0) _ rfl (blk_put3 (blk_drewN B2.out _) _ _ _) Try.underlying24 rfl (by kernel_rfl)) rfl ?_
      exact ⟨_, _, rfl, R_put3 (pR X1.out) (blk_drewN B2.out _) _ _ _, R_put3 (pR X2.out) (blk_drewN B2.out _) _ _ _, below_put3 (pB HB.out) GE2.out _ _ _⟩
end Go.Proofs.Ytlhmgigjbeefbaa.XPlayWalk
