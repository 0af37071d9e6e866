/-
  Flush behind any play delivers everything: plain Lean. Condition: what play keeps (PureSafe).
-/
import Derived.Test.YtlhmgigjbeefbaaPureSafe
import Derived.Test.YtlhmgigjbeefbaaXFlush
namespace Go.Proofs.Ytlhmgigjbeefbaa.PureDeliver
set_option linter.unusedVariables false
open Go.RowKit Go.Proofs.Ytlhmgigjbeefbaa.PureLine Go.Proofs.Ytlhmgigjbeefbaa.XPlay Go.Proofs.Ytlhmgigjbeefbaa.XFlush Go.Proofs.Ytlhmgigjbeefbaa.PureSafe Go.Proofs.YtlhmgigjbeefbaaW.PrintWords Go.Proofs.YtlhmgigjbeefbaaW.PrintLast Go.Proofs.YtlhmgigjbeefbaaW.PrintMore

theorem deliv_append : ∀ (l m bs : List Int) (r : Int), delivP (l ++ m) bs r = delivP m (delivP l bs r).1 (delivP l bs r).2
  | [], _, _, _ => rfl
  | n :: l, m, bs, r => deliv_append l m (bs ++ [acceptP n r]) (acceptP n r)

/-- The messages that wait: the receiver's count grows at most up to what was sent. -/
theorem deliv_le (s : Int) : ∀ (l bs : List Int) (r : Int), (∀ x ∈ l, x ≤ s) → r ≤ s → (∀ x ∈ bs, x ≤ s) → r ≤ (delivP l bs r).2 ∧ (delivP l bs r).2 ≤ s ∧ (∀ x ∈ (delivP l bs r).1, x ≤ s)
  | [], _, _, _, h, hb => ⟨Int.le_refl _, h, hb⟩
  | n :: l, bs, r, hl, h, hb => by
    have hn := hl n (List.mem_cons_self ..)
    have ha : acceptP n r ≤ s := by unfold acceptP; split <;> omega
    have hr := accept_range n r
    obtain ⟨h1, h2, h3⟩ := deliv_le s l (bs ++ [acceptP n r]) (acceptP n r) (fun x hx => hl x (List.mem_cons_of_mem _ hx)) ha (fun x hx => by
      rcases List.mem_append.1 hx with e | e
      · exact hb x e
      · simp only [List.mem_singleton] at e
        omega)
    exact ⟨by show r ≤ (delivP l (bs ++ [acceptP n r]) (acceptP n r)).2; omega, h2, h3⟩

/-- All that is not acknowledged, in order: then everything has come. -/
theorem deliv_span : ∀ (m : Nat) (n : Int) (bs : List Int) (r : Int), n - 1 ≤ r → n - 1 + m ≤ (delivP (span n m) bs r).2
  | 0, n, bs, r, h => by show n - 1 + 0 ≤ r; omega
  | m + 1, n, bs, r, h => by
    have ha : n ≤ acceptP n r := by unfold acceptP; split <;> omega
    have := deliv_span m (n + 1) (bs ++ [acceptP n r]) (acceptP n r) (by omega)
    show n - 1 + ((m + 1 : Nat) : Int) ≤ (delivP (span (n + 1) m) (bs ++ [acceptP n r]) (acceptP n r)).2
    omega

/-- What came last is what is acknowledged last. -/
theorem deliv_last : ∀ (l bs : List Int) (r : Int), l ≠ [] → (delivP l bs r).2 ∈ (delivP l bs r).1
  | [], _, _, h => absurd rfl h
  | [n], bs, r, _ => by show acceptP n r ∈ bs ++ [acceptP n r]; exact List.mem_append_right _ (List.mem_singleton.2 rfl)
  | n :: m :: l, bs, r, _ => deliv_last (m :: l) (bs ++ [acceptP n r]) (acceptP n r) (by simp)

theorem max_ge : ∀ (bs : List Int) (a x : Int), x = a ∨ x ∈ bs → x ≤ maxP bs a
  | [], a, x, h => by
    rcases h with rfl | h
    · exact Int.le_refl _
    · cases h
  | n :: bs, a, x, h => by
    show x ≤ maxP bs (mx a n)
    have h1 := max_ge bs (mx a n) (mx a n) (Or.inl rfl)
    have h2 : a ≤ mx a n ∧ n ≤ mx a n := by unfold mx; split <;> omega
    rcases h with rfl | h
    · omega
    · rcases List.mem_cons.1 h with rfl | h
      · omega
      · exact max_ge bs (mx a n) x (Or.inr h)
theorem max_le (s : Int) : ∀ (bs : List Int) (a : Int), a ≤ s → (∀ x ∈ bs, x ≤ s) → maxP bs a ≤ s
  | [], a, h, _ => h
  | n :: bs, a, h, hb => by
    show maxP bs (mx a n) ≤ s
    have hn := hb n (List.mem_cons_self ..)
    exact max_le s bs (mx a n) (by unfold mx; split <;> omega) (fun x hx => hb x (List.mem_cons_of_mem _ hx))

theorem flush_all (q : St) (h : GoodSt q) (hi : q.i ≤ 120) (hs : q.s ≤ q.i) : flushP (transmitP q.a q.ws q.bs q.s) q.r = (q.s, [], [], q.s, 0) := by
  have h0 := h.a0; have h1 := h.ar; have h2 := h.rs; have h3 := h.len
  have ht : transmitP q.a q.ws q.bs q.s = (q.a, q.ws ++ span (q.a + 1) (q.s - q.a).toNat, q.bs, 0) := by
    unfold transmitP
    rw [if_neg (by omega), if_neg (by omega)]
  rw [ht]
  unfold flushP
  simp only
  rw [if_pos trivial, if_neg (by omega), if_neg (by omega)]
  have hw : ∀ x ∈ q.ws ++ span (q.a + 1) (q.s - q.a).toNat, x ≤ q.s := by
    intro x hx
    rcases List.mem_append.1 hx with e | e
    · exact (h.hw x e).2
    · have := mem_span _ _ _ e
      omega
  have hb : ∀ x ∈ q.bs, x ≤ q.s := fun x hx => by have := h.hb x hx; omega
  obtain ⟨d1, d2, d3⟩ := deliv_le q.s _ q.bs q.r hw h2 hb
  have d4 : q.s ≤ (delivP (q.ws ++ span (q.a + 1) (q.s - q.a).toNat) q.bs q.r).2 := by
    rw [deliv_append]
    have e1 := (deliv_le q.s q.ws q.bs q.r (fun x hx => (h.hw x hx).2) h2 hb).1
    have := deliv_span (q.s - q.a).toNat (q.a + 1) (delivP q.ws q.bs q.r).1 (delivP q.ws q.bs q.r).2 (by omega)
    omega
  have d5 : (delivP (q.ws ++ span (q.a + 1) (q.s - q.a).toNat) q.bs q.r).2 = q.s := by omega
  have d6 : maxP (delivP (q.ws ++ span (q.a + 1) (q.s - q.a).toNat) q.bs q.r).1 q.a = q.s := by
    have u := max_le q.s (delivP (q.ws ++ span (q.a + 1) (q.s - q.a).toNat) q.bs q.r).1 q.a (by omega) d3
    by_cases hn : q.ws ++ span (q.a + 1) (q.s - q.a).toNat = []
    · have hsp : (span (q.a + 1) (q.s - q.a).toNat).length = 0 := by rw [(List.append_eq_nil_iff.1 hn).2]; rfl
      rw [span_length] at hsp
      have := max_ge (delivP (q.ws ++ span (q.a + 1) (q.s - q.a).toNat) q.bs q.r).1 q.a q.a (Or.inl rfl)
      omega
    · have hl := deliv_last (q.ws ++ span (q.a + 1) (q.s - q.a).toNat) q.bs q.r hn
      rw [d5] at hl
      have := max_ge (delivP (q.ws ++ span (q.a + 1) (q.s - q.a).toNat) q.bs q.r).1 q.a q.s (Or.inr hl)
      omega
  rw [d5, d6]
end Go.Proofs.Ytlhmgigjbeefbaa.PureDeliver
