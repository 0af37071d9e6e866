/-
  The contracts of customsmade's Source.Left, Source.Next and Cut, by walks: what they answer, and what becomes of the source's own two cells. Conditions: at most 1000 numbers in the source.
-/
import Derived.Test.YtlhmgigjbeefbaaPureLine
namespace Go.Proofs.Ytlhmgigjbeefbaa.XSource
set_option linter.unusedVariables false
set_option linter.unusedSimpArgs false
open Go.RowKit Go.Proofs.Ytlhmgigjbeefbaa.PChannelSteps Go.Proofs.Ytlhmgigjbeefbaa.PureLine Go.Proofs.YtlhmgigjbeefbaaW.PrintWords Go.Proofs.YtlhmgigjbeefbaaW.PrintLast Go.Proofs.YtlhmgigjbeefbaaW.PrintMore

set_option maxHeartbeats 1000000 in
set_option maxRecDepth 100000 in
theorem left_calls (g : Nat) (A : Option Addr) (n c : Nat) (i : Int) (w : World) (hc0 : w.cell? ⟨g, 0, none⟩ = some (.slice A n c)) (hc1 : w.cell? ⟨g, 1, none⟩ = some (.int .i64 i)) :
    Calls Try.prog 30 #[.pointer (some ⟨g, 0, none⟩)] w fun e w' => e = .returned (.bool (decide (i < (n : Int)))) ∧ Drawn0 w w' := by
  go_enter Try.func30, Try.ntmps30
  go_wp2
  repeat (go_quiet (fail); try go_wp2)
  go_ret
  exact ⟨rfl, by repeat (first | exact Drawn0.refl _ | apply Drawn0.step)⟩

set_option maxHeartbeats 1000000 in
set_option maxRecDepth 100000 in
theorem next_end (g : Nat) (A : Option Addr) (n c : Nat) (i m : Int) (w : World) (hc0 : w.cell? ⟨g, 0, none⟩ = some (.slice A n c)) (hc1 : w.cell? ⟨g, 1, none⟩ = some (.int .i64 i)) (h1 : (n : Int) ≤ i) :
    Calls Try.prog 31 #[.pointer (some ⟨g, 0, none⟩), .int .i64 m] w fun e w' => e = .returned (.int .i64 0) ∧ Drawn0 w w' := by
  have hb : decide ((n : Int) ≤ i) = true := decide_eq_true h1
  clear h1
  go_enter Try.func31, Try.ntmps31
  go_wp2
  repeat (go_quiet (fail); try go_wp2)
  go_ret
  exact ⟨rfl, by repeat (first | exact Drawn0.refl _ | apply Drawn0.step)⟩

set_option maxHeartbeats 1000000 in
set_option maxRecDepth 100000 in
theorem next_calls (g : Nat) (ad : Addr) (n c : Nat) (i m v : Int) (w : World) (hc0 : w.cell? ⟨g, 0, none⟩ = some (.slice (some ad) n c)) (hc1 : w.cell? ⟨g, 1, none⟩ = some (.int .i64 i)) (hf1 : w.frozen? ⟨g, 1, none⟩ = false) (h0 : 0 ≤ i) (h1 : i < (n : Int)) (hn : n ≤ 1000)
    (hx : w.cell? (ad.add i.toNat) = some (.int .i64 v)) (hne : ad.block ≠ g) (hm : 0 < m) (hm2 : m ≤ 1000) :
    Calls Try.prog 31 #[.pointer (some ⟨g, 0, none⟩), .int .i64 m] w fun e w' => e = .returned (.int .i64 (withinP v m)) ∧ ∃ p q, w' = ((w.drewN p).setCell ⟨g, 1, none⟩ (.int .i64 (i + 1))).drewN q := by
  have hw := (within_ok v m hm (by omega)).1
  have HW := Aside0.mk hw
  clear hw
  have hb : decide ((n : Int) ≤ i) = false := decide_eq_false (by omega)
  have hx2 : ∀ p, ((w.drewN p).setCell ⟨g, 1, none⟩ (.int .i64 (i + 1))).cell? (ad.add i.toNat) = some (.int .i64 v) := by
    intro p
    refine (cell_far (p := ⟨g, 1, none⟩) ?_ _).trans hx
    rw [add_block]
    exact hne
  have hi : IntKind.i64.wrap (i + 1) = i + 1 := by rw [i64_w]; exact wrapS _ (by omega) (by omega)
  have hi2 : IntKind.i64.wrap (i + 1 - 1) = i := by rw [i64_w, wrapS _ (by omega) (by omega)]; omega
  go_enter Try.func31, Try.ntmps31
  go_wp2
  go_quiet (fail)
  go_wp2
  repeat (go_quiet (first | (go_at_call 12; (with_reducible refine (customsmade_Within.calls v m (withinP v m) _ HW.out).mono ?_); rintro e w' ⟨rfl, ⟨nd, rfl⟩⟩; (try first | exact ⟨rfl, _, World.drewN_drewN _ _ _⟩ | exact ⟨rfl, _, Eq.trans (World.drewN_drewN _ _ _) (congrArg (World.drewN _) (Nat.add_assoc _ _ _))⟩))); try go_wp2)
  go_ret
  exact ⟨rfl, _, _, rfl⟩
theorem info3 : (Try.prog.info? 3).map (fun i => (i.zero, i.size, i.bytes)) = some (some (.int .i64 0), 1, 8) := by kernel_rfl

set_option maxHeartbeats 1000000 in
set_option maxRecDepth 100000 in
theorem cut_calls (A : Option Addr) (c : Nat) (l : List Int) (m : Int) (w : World) (h0 : 0 ≤ m) (hm : m ≤ 1000) (hc : l.length ≤ c) :
    Calls Try.prog 29 #[.slice A l.length c, .int .i64 m] w fun e w' => e = .returned (.slice A (l.take m.toNat).length c) ∧ Drawn0 w w' := by
  by_cases h : m < (l.length : Int)
  · have hb : decide (m < (l.length : Int)) = true := decide_eq_true h
    obtain ⟨i0, hi0, _, _, _⟩ := info_parts info3
    have hcut := cut_to (P := Try.prog) 22 3 .i64 Try.underlying22 hi0 A l.length c m h0 (by omega) hc
    have hl : (l.take m.toNat).length = m.toNat := by rw [List.length_take]; omega
    rw [← hl] at hcut
    have HL := Aside0.mk hl
    clear hl h hc
    go_enter Try.func29, Try.ntmps29
    go_wp2
    go_ret
    exact ⟨by rw [List.length_take]; rfl, by repeat (first | exact Drawn0.refl _ | apply Drawn0.step)⟩
  · have hb : decide (m < (l.length : Int)) = false := decide_eq_false h
    have hl : (l.take m.toNat).length = l.length := by rw [List.length_take]; omega
    rw [hl]
    clear hl h hc
    go_enter Try.func29, Try.ntmps29
    go_wp2
    go_ret
    exact ⟨rfl, by repeat (first | exact Drawn0.refl _ | apply Drawn0.step)⟩
theorem left_is (g : Nat) (A : Option Addr) (n c : Nat) (i : Int) (b : Bool) (w : World) (hb : decide (i < (n : Int)) = b) (hc0 : w.cell? ⟨g, 0, none⟩ = some (.slice A n c)) (hc1 : w.cell? ⟨g, 1, none⟩ = some (.int .i64 i)) :
    Calls Try.prog 30 #[.pointer (some ⟨g, 0, none⟩)] w fun e w' => e = .returned (.bool b) ∧ Drawn0 w w' := hb ▸ left_calls g A n c i w hc0 hc1
end Go.Proofs.Ytlhmgigjbeefbaa.XSource
