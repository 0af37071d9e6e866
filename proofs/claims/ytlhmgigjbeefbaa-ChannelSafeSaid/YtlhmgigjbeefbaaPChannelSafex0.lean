/-
  The contract of the law ChannelSafe, by a walk: play, then the check on fixed data. No condition beyond the list's own reading.
-/
import Derived.Test.YtlhmgigjbeefbaaXPlayWalk
namespace Go.Proofs.Ytlhmgigjbeefbaa.PChannelSafe
set_option linter.unusedVariables false
set_option linter.unusedSimpArgs false
open Go.RowKit Go.Proofs.Ytlhmgigjbeefbaa.PChannelSteps Go.Proofs.Ytlhmgigjbeefbaa.PureLine Go.Proofs.Ytlhmgigjbeefbaa.XPlay Go.Proofs.Ytlhmgigjbeefbaa.XPlayWalk Go.Proofs.YtlhmgigjbeefbaaW.PrintWords Go.Proofs.YtlhmgigjbeefbaaW.PrintLast Go.Proofs.YtlhmgigjbeefbaaW.PrintMore

def customslaw38_ChannelSafe.f (l0 : List Int) : Option Bool := some (runP (l0.take 120) 121 q0).2

set_option maxHeartbeats 4000000 in
set_option maxRecDepth 100000 in
theorem customslaw38_ChannelSafe.calls (A0 : Option Addr) (c0 : Nat) (l0 : List Int) (w : World) (hr0 : Kd.C (Kd.int .i64) w A0 l0.length l0) (hc0 : l0.length ≤ c0) (h : customslaw38_ChannelSafe.f l0 = some true) :
    Calls Try.prog 4 #[.slice A0 l0.length c0] w fun e w' => e = .returned (.bool true) ∧ Below w.heap.size w w' := by
  have hu24 := Try.underlying24
  unfold customslaw38_ChannelSafe.f at h
  obtain ⟨⟨q, ok⟩, hq⟩ : ∃ r, runP (l0.take 120) 121 q0 = r := ⟨_, rfl⟩
  rw [hq] at h
  obtain rfl : ok = true := Option.some.inj h
  have hp := play_calls A0 c0 l0 w hr0 hc0 q true hq
  have hk := awake_ok 60 (Nat.le_refl _)
  have HP := Aside0.mk hp
  have HK := Aside0.mk hk
  clear hr0 hc0 h hq hp hk
  go_enter Try.func4, Try.ntmps4
  go_wp2_with (first | ((with_reducible refine gate_callee (f := 11) rfl ?_); refine goesL_ (some 9) rfl rfl Try.func11 (by kernel_rfl) rfl #[.slice A0 l0.length c0] rfl (by (try simp only [List.map_toArray, List.map_cons, List.map_nil]); first | done | rfl) ?_; (with_reducible refine HP.out.mono ?_); rintro e w1 ⟨v1, v2, rfl, ho1, ho2, hb⟩; refine ⟨_, rfl, ?_⟩; obtain ⟨A1, c1, e1⟩ := Kd.R_slice ho1; subst e1; obtain ⟨A2, c2, e2⟩ := Kd.R_slice ho2; subst e2; have HB := Aside0.mk hb; clear ho1 ho2 hb) | ((with_reducible refine gate_dst (N := 3) rfl ?_); refine box_event ?hg (N := 3) ?hd (cs := #[.int .i64 0, .slice none 0 0, .slice none 0 0]) (t := 24) ?hr ?_; (case hd => rfl); (case hg => rfl); (case hr => first | (go_simp; done) | (go_simp; rfl)); intro g3 hg w2 hbox hb; have n0_ := Aside0.mk (below_step HB.out hb); have GE3 := Aside0.mk (show w.heap.size ≤ g3 by rw [hg]; exact HB.out.size); clear HB; have HB := n0_; clear n0_; have hcz_0 : w2.cell? ⟨g3, 0, none⟩ = some (.int .i64 0) := (blk_cell hbox 0).trans rfl; have hcz_1 : w2.cell? ⟨g3, 1, none⟩ = some (.slice none 0 0) := (blk_cell hbox 1).trans rfl; have hcz_2 : w2.cell? ⟨g3, 2, none⟩ = some (.slice none 0 0) := (blk_cell hbox 2).trans rfl; have hfz_0 := blk_frozen hbox 0; have hfz_1 := blk_frozen hbox 1; have hfz_2 := blk_frozen hbox 2; clear hbox hb hg) | ((with_reducible refine gate_callee (f := 7) rfl ?_); (try (refine gate_guard (by rfl) ?_; dsimp only)); refine goesL_ (some 16) rfl rfl Try.func7 (by kernel_rfl) rfl #[] rfl (by (try simp only [List.map_toArray, List.map_cons, List.map_nil]); first | done | rfl) ?_; (with_reducible refine (customslaw38_awake.calls 60 true _ HK.out).mono ?_); rintro e w3 ⟨rfl, hb⟩; refine ⟨_, rfl, ?_⟩; have n0_ := Aside0.mk (below_step (below_set (below_set (below_set HB.out GE3.out) GE3.out) GE3.out) hb); clear HB hb hcz_0 hcz_1 hcz_2; have HB := n0_; clear n0_))
  go_ret
  exact ⟨rfl, HB.out⟩
end Go.Proofs.Ytlhmgigjbeefbaa.PChannelSafe
