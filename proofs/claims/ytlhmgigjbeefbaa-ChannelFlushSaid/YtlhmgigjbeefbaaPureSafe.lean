/-
  Whatever the source says, play ends well: what is acknowledged was received, what was received was sent; how long the lists can get. In plain Lean.
-/
import Derived.Test.YtlhmgigjbeefbaaXPlay
namespace Go.Proofs.Ytlhmgigjbeefbaa.PureSafe
set_option linter.unusedVariables false
open Go.RowKit Go.Proofs.Ytlhmgigjbeefbaa.PureLine Go.Proofs.Ytlhmgigjbeefbaa.XPlay Go.Proofs.YtlhmgigjbeefbaaW.PrintWords Go.Proofs.YtlhmgigjbeefbaaW.PrintLast Go.Proofs.YtlhmgigjbeefbaaW.PrintMore

/-- What the line and the two counts keep. -/
structure Good (i a s r : Int) (ws bs : List Int) : Prop where
  a0 : 0 ≤ a
  ar : a ≤ r
  rs : r ≤ s
  hw : ∀ x ∈ ws, 1 ≤ x ∧ x ≤ s
  hb : ∀ x ∈ bs, 0 ≤ x ∧ x ≤ r
  len : (ws.length : Int) ≤ 100 + 2 * i

theorem mem_span : ∀ (m : Nat) (n x : Int), x ∈ span n m → n ≤ x ∧ x < n + m
  | 0, _, _, h => by simp [span] at h
  | m + 1, n, x, h => by
    simp only [span, List.mem_cons] at h
    rcases h with rfl | h
    · omega
    · have := mem_span m (n + 1) x h
      omega
theorem mem_cut {l : List Int} {i x : Int} (h : x ∈ cutP l i) : x ∈ l := by
  unfold cutP at h
  rcases List.mem_append.1 h with e | e
  · exact List.mem_of_mem_take e
  · exact List.mem_of_mem_drop e
theorem cut_len (l : List Int) (i : Int) (h0 : 0 ≤ i) : (cutP l i).length ≤ l.length := by
  unfold cutP
  simp only [List.length_append, List.length_take, List.length_drop]
  omega
theorem mem_rd {l : List Int} {i : Int} (h0 : 0 ≤ i) (h1 : i < l.length) : rd l i ∈ l := by
  obtain ⟨n, rfl⟩ := Int.eq_ofNat_of_zero_le h0
  rw [rd_ge l n (by omega)]
  exact List.getElem_mem _

section
variable {i j a s r : Int} {ws bs : List Int}
theorem Good.later (h : Good i a s r ws bs) (hj : i ≤ j) : Good j a s r ws bs := ⟨h.a0, h.ar, h.rs, h.hw, h.hb, by have := h.len; omega⟩
theorem good_sent (h : Good i a s r ws bs) (hj : i ≤ j) : Good j a (s + 1) r ws bs :=
  ⟨h.a0, h.ar, by have := h.rs; omega, fun x hx => by have := h.hw x hx; omega, h.hb, by have := h.len; omega⟩
theorem good_transmit (h : Good i a s r ws bs) (hi : s ≤ i) (hw : (ws.length : Int) < 100) (hj : i ≤ j) (he : (transmitP a ws bs s).2.2.2 = 0) :
    Good j (transmitP a ws bs s).1 s r (transmitP a ws bs s).2.1 (transmitP a ws bs s).2.2.1 := by
  have h0 := h.a0
  unfold transmitP at he ⊢
  split at he
  · simp at he
  · rename_i h1
    rw [if_neg h1]
    split at he
    · simp at he
    · rename_i h2
      rw [if_neg h2]
      refine ⟨h.a0, h.ar, h.rs, fun x hx => ?_, h.hb, ?_⟩
      · rcases List.mem_append.1 hx with e | e
        · exact h.hw x e
        · have := mem_span _ _ _ e
          omega
      · simp only [List.length_append, span_length]
        omega
theorem good_deliver (h : Good i a s r ws bs) (hj : i ≤ j) (v : Int) (he : (deliverP a ws bs v r).2.2.2.2 = 0) :
    Good j (deliverP a ws bs v r).1 s (if (deliverP a ws bs v r).2.2.2.1 = r + 1 then (deliverP a ws bs v r).2.2.2.1 else r) (deliverP a ws bs v r).2.1 (deliverP a ws bs v r).2.2.1 := by
  have ha := h.ar
  have hr := h.rs
  unfold deliverP at he ⊢
  split at he
  · rename_i h1
    rw [if_pos h1]
    have hm := h.hw _ (mem_rd h1.1 h1.2.1)
    have hl := cut_len ws v h1.1
    simp only
    by_cases hn : rd ws v = r + 1
    · rw [if_pos hn]
      refine ⟨h.a0, by omega, by omega, fun x hx => h.hw x (mem_cut hx), fun x hx => ?_, by have := h.len; omega⟩
      unfold acceptP at hx
      rw [if_pos hn] at hx
      rcases List.mem_append.1 hx with e | e
      · have := h.hb x e
        omega
      · simp only [List.mem_singleton] at e
        omega
    · rw [if_neg hn]
      refine ⟨h.a0, h.ar, h.rs, fun x hx => h.hw x (mem_cut hx), fun x hx => ?_, by have := h.len; omega⟩
      unfold acceptP at hx
      rw [if_neg hn] at hx
      rcases List.mem_append.1 hx with e | e
      · exact h.hb x e
      · simp only [List.mem_singleton] at e
        have := h.a0
        omega
  · simp at he
theorem good_lose (h : Good i a s r ws bs) (hj : i ≤ j) (v : Int) (he : (loseP a ws bs v).2.2.2 = 0) : Good j (loseP a ws bs v).1 s r (loseP a ws bs v).2.1 (loseP a ws bs v).2.2.1 := by
  unfold loseP at he ⊢
  split at he
  · rename_i h1
    rw [if_pos h1]
    have hl := cut_len ws v h1.1
    exact ⟨h.a0, h.ar, h.rs, fun x hx => h.hw x (mem_cut hx), h.hb, by have := h.len; simp only; omega⟩
  · simp at he
theorem good_repeat (h : Good i a s r ws bs) (hj : i + 1 ≤ j) (v : Int) (he : (repeatP a ws bs v).2.2.2 = 0) : Good j (repeatP a ws bs v).1 s r (repeatP a ws bs v).2.1 (repeatP a ws bs v).2.2.1 := by
  unfold repeatP at he ⊢
  split at he
  · rename_i h1
    rw [if_pos h1]
    split at he
    · simp at he
    · rename_i h2
      rw [if_neg h2]
      refine ⟨h.a0, h.ar, h.rs, fun x hx => ?_, h.hb, by have := h.len; simp only [List.length_append, List.length_singleton]; omega⟩
      rcases List.mem_append.1 hx with e | e
      · exact h.hw x e
      · simp only [List.mem_singleton] at e
        subst e
        exact h.hw _ (mem_rd h1.1 h1.2)
  · simp at he
theorem good_confirm (h : Good i a s r ws bs) (hj : i ≤ j) (v : Int) (he : (confirmP a ws bs v).2.2.2 = 0) : Good j (confirmP a ws bs v).1 s r (confirmP a ws bs v).2.1 (confirmP a ws bs v).2.2.1 := by
  unfold confirmP at he ⊢
  split at he
  · rename_i h1
    rw [if_pos h1]
    have hb := h.hb _ (mem_rd h1.1 h1.2)
    have h2 := h.a0; have h3 := h.ar
    refine ⟨?_, ?_, h.rs, h.hw, fun x hx => h.hb x (mem_cut hx), by have := h.len; simp only; omega⟩
    · simp only; unfold mx; split <;> omega
    · simp only; unfold mx; split <;> omega
  · simp at he
theorem good_forget (h : Good i a s r ws bs) (hj : i ≤ j) (v : Int) (he : (forgetP a ws bs v).2.2.2 = 0) : Good j (forgetP a ws bs v).1 s r (forgetP a ws bs v).2.1 (forgetP a ws bs v).2.2.1 := by
  unfold forgetP at he ⊢
  split at he
  · rename_i h1
    rw [if_pos h1]
    exact ⟨h.a0, h.ar, h.rs, h.hw, fun x hx => h.hb x (mem_cut hx), by have := h.len; simp only; omega⟩
  · simp at he
end

def GoodSt (q : St) : Prop := Good q.i q.a q.s q.r q.ws q.bs

/-- What one round hands on, put together: whether the call was right or not. -/
theorem good_mid (L : List Int) (q : St) (hI : Inv L q) (h : GoodSt q) (hi : q.i < (L.length : Int)) (x i : Int) (hxi : i = q.i + 1) :
    ((midP L q x i).e = 0 → Good (midP L q x i).i (midP L q x i).a (midP L q x i).s (midP L q x i).r (midP L q x i).ws (midP L q x i).bs) ∧
    ((midP L q x i).e ≠ 0 → (midP L q x i).s = q.s ∧ (midP L q x i).r = q.r) ∧ q.i ≤ (midP L q x i).i := by
  have n20 := nextP_range L i 20 (by omega) (by omega) (by omega)
  have n3 := nextP_range L i 3 (by omega) (by omega) (by omega)
  have n320 := nextP_range L (nextP L i 3).2 20 (by omega) (by omega) (by omega)
  unfold GoodSt at h
  unfold midP midOf
  split
  · exact ⟨fun _ => good_sent h (by simp only; omega), fun e => absurd rfl e, by simp only; omega⟩
  · split
    · split
      · rename_i hw
        exact ⟨fun e => good_transmit h hI.s1 hw (by simp only; omega) e, fun _ => ⟨rfl, rfl⟩, by simp only; omega⟩
      · exact ⟨fun _ => h.later (by simp only; omega), fun e => absurd rfl e, by simp only; omega⟩
    · split
      · refine ⟨fun e => ?_, fun e => ⟨rfl, ?_⟩, by simp only; omega⟩
        · simp only at e ⊢
          rw [if_pos e]
          exact good_deliver h (by omega) _ e
        · simp only at e ⊢
          rw [if_neg e]
      · split
        · exact ⟨fun e => good_lose h (by simp only; omega) _ e, fun _ => ⟨rfl, rfl⟩, by simp only; omega⟩
        · split
          · exact ⟨fun e => good_repeat h (by simp only; omega) _ e, fun _ => ⟨rfl, rfl⟩, by simp only; omega⟩
          · split
            · exact ⟨fun e => good_forget h (by simp only; omega) _ e, fun _ => ⟨rfl, rfl⟩, by simp only; omega⟩
            · exact ⟨fun e => good_confirm h (by simp only; omega) _ e, fun _ => ⟨rfl, rfl⟩, by simp only; omega⟩

theorem good_step (L : List Int) (q : St) (hI : Inv L q) (h : GoodSt q) (hi : q.i < (L.length : Int)) : GoodSt (stepP L q) := by
  have hx : (nextP L q.i 8).2 = q.i + 1 := by unfold nextP; rw [if_pos hi]
  have hm := good_mid L q hI h hi (nextP L q.i 8).1 (nextP L q.i 8).2 hx
  unfold stepP
  generalize midP L q (nextP L q.i 8).1 (nextP L q.i 8).2 = m at hm ⊢
  unfold endP
  split
  · rename_i e
    exact hm.1 e
  · rename_i e
    obtain ⟨e1, e2⟩ := hm.2.1 e
    unfold GoodSt at h ⊢
    simp only
    rw [e1, e2]
    exact h.later hm.2.2

theorem run_good (L : List Int) : ∀ (k : Nat) (q : St), Inv L q → GoodSt q → (L.length : Int) ≤ 120 → (runP L k q).2 = true ∧ GoodSt (runP L k q).1 ∧ Inv L (runP L k q).1
  | 0, q, hI, h, _ => ⟨rfl, h, hI⟩
  | k + 1, q, hI, h, hl => by
    unfold runP
    by_cases hi : q.i < (L.length : Int)
    · rw [if_pos hi]
      have hg := good_step L q hI h hi
      have hn := (step_inv L q hI hi).1
      have h1 := hg.ar
      have h2 := hg.rs
      rw [if_neg (by omega), if_neg (by omega)]
      exact run_good L k (stepP L q) hn hg hl
    · rw [if_neg hi]
      exact ⟨rfl, h, hI⟩

theorem start_inv (L : List Int) : Inv L ⟨0, 0, 0, 0, [], []⟩ := ⟨by decide, by show (0 : Int) ≤ _; omega, by decide, by decide, by decide, by decide, by decide, by decide⟩
theorem start_good : GoodSt ⟨0, 0, 0, 0, [], []⟩ := ⟨by decide, by decide, by decide, (fun _ h => by cases h), (fun _ h => by cases h), by decide⟩
end Go.Proofs.Ytlhmgigjbeefbaa.PureSafe
