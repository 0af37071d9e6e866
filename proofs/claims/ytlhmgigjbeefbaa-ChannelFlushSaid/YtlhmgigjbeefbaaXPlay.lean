/-
  The contract of customslaw38.play: by a walk: the program's functions one after the other, as the source's numbers say. Conditions: none beyond the list's own reading (of the list 120 numbers are used).
-/
import Derived.Test.YtlhmgigjbeefbaaXSource
import Derived.Deep.LoopGhost
namespace Go.Proofs.Ytlhmgigjbeefbaa.XPlay
set_option linter.unusedVariables false
set_option linter.unusedSimpArgs false
open Go.RowKit Go.Proofs.Ytlhmgigjbeefbaa.PChannelSteps Go.Proofs.Ytlhmgigjbeefbaa.PureLine Go.Proofs.Ytlhmgigjbeefbaa.XSource Go.Proofs.YtlhmgigjbeefbaaW.PrintWords Go.Proofs.YtlhmgigjbeefbaaW.PrintLast Go.Proofs.YtlhmgigjbeefbaaW.PrintMore

/-! ### What play computes -/
def nextP (L : List Int) (i m : Int) : Int × Int := if i < (L.length : Int) then (withinP (rd L i) m, i + 1) else (0, i)
structure St where
  (i a s r : Int)
  (ws bs : List Int)
structure Mid where
  (i s r e a : Int)
  (ws bs : List Int)
def midOf (i s r : Int) (t : Int × List Int × List Int × Int) : Mid := ⟨i, s, r, t.2.2.2, t.1, t.2.1, t.2.2.1⟩
def midP (L : List Int) (q : St) (x i : Int) : Mid :=
  if x = 0 then ⟨i, q.s + 1, q.r, 0, q.a, q.ws, q.bs⟩
  else if x = 1 ∨ x = 2 then (if (q.ws.length : Int) < 100 then midOf i q.s q.r (transmitP q.a q.ws q.bs q.s) else ⟨i, q.s, q.r, 0, q.a, q.ws, q.bs⟩)
  else if x = 3 ∨ x = 4 then
    (let t := deliverP q.a q.ws q.bs (nextP L i 20).1 q.r
     ⟨(nextP L i 20).2, q.s, if t.2.2.2.2 = 0 then (if t.2.2.2.1 = q.r + 1 then t.2.2.2.1 else q.r) else q.r, t.2.2.2.2, t.1, t.2.1, t.2.2.1⟩)
  else if x = 5 then midOf (nextP L i 20).2 q.s q.r (loseP q.a q.ws q.bs (nextP L i 20).1)
  else if x = 6 then midOf (nextP L i 20).2 q.s q.r (repeatP q.a q.ws q.bs (nextP L i 20).1)
  else if (nextP L i 3).1 = 0 then midOf (nextP L (nextP L i 3).2 20).2 q.s q.r (forgetP q.a q.ws q.bs (nextP L (nextP L i 3).2 20).1)
  else midOf (nextP L (nextP L i 3).2 20).2 q.s q.r (confirmP q.a q.ws q.bs (nextP L (nextP L i 3).2 20).1)
def endP (q : St) (m : Mid) : St := if m.e = 0 then ⟨m.i, m.a, m.s, m.r, m.ws, m.bs⟩ else ⟨m.i, q.a, m.s, m.r, q.ws, q.bs⟩
def stepP (L : List Int) (q : St) : St := endP q (midP L q (nextP L q.i 8).1 (nextP L q.i 8).2)
def runP (L : List Int) : Nat → St → St × Bool
  | 0, q => (q, true)
  | k + 1, q => if q.i < (L.length : Int) then (if (stepP L q).a > (stepP L q).r then (stepP L q, false) else if (stepP L q).r > (stepP L q).s then (stepP L q, false) else runP L k (stepP L q)) else (q, true)

/-! ### What holds all along -/
structure Inv (L : List Int) (q : St) : Prop where
  i0 : 0 ≤ q.i
  i1 : q.i ≤ (L.length : Int)
  s0 : 0 ≤ q.s
  s1 : q.s ≤ q.i
  r0 : 0 ≤ q.r
  r1 : q.r ≤ q.i
  ws : q.ws.length ≤ 1000
  bs : (q.bs.length : Int) ≤ q.i

theorem nextP_range (L : List Int) (i m : Int) (hi : i ≤ (L.length : Int)) (h0 : 0 < m) (h1 : m ≤ 1000) :
    0 ≤ (nextP L i m).1 ∧ (nextP L i m).1 < m ∧ i ≤ (nextP L i m).2 ∧ (nextP L i m).2 ≤ (L.length : Int) := by
  unfold nextP
  split
  · have := within_ok (rd L i) m h0 (by omega)
    exact ⟨this.2.1, this.2.2, by simp only; omega, by simp only; omega⟩
  · exact ⟨by simp, by simpa using h0, by simp, by simpa using hi⟩

theorem lenT (a : Int) (ws bs : List Int) (s : Int) (hw : ws.length ≤ 1000) : (transmitP a ws bs s).2.1.length ≤ 1000 ∧ (transmitP a ws bs s).2.2.1.length ≤ bs.length := by
  unfold transmitP
  split
  · simp
  · split
    · simp
    · refine ⟨?_, Nat.le_refl _⟩
      simp only [List.length_append, span_length]
      omega
theorem lenD (a : Int) (ws bs : List Int) (i r : Int) (hw : ws.length ≤ 1000) : (deliverP a ws bs i r).2.1.length ≤ 1000 ∧ (deliverP a ws bs i r).2.2.1.length ≤ bs.length + 1 := by
  unfold deliverP
  split
  · rename_i h
    exact ⟨by rw [cutP_length _ _ h.1 h.2.1]; omega, by simp⟩
  · simp
theorem lenL (a : Int) (ws bs : List Int) (i : Int) (hw : ws.length ≤ 1000) : (loseP a ws bs i).2.1.length ≤ 1000 ∧ (loseP a ws bs i).2.2.1.length ≤ bs.length := by
  unfold loseP
  split
  · rename_i h
    exact ⟨by rw [cutP_length _ _ h.1 h.2]; omega, Nat.le_refl _⟩
  · simp
theorem lenR (a : Int) (ws bs : List Int) (i : Int) (hw : ws.length ≤ 1000) : (repeatP a ws bs i).2.1.length ≤ 1000 ∧ (repeatP a ws bs i).2.2.1.length ≤ bs.length := by
  unfold repeatP
  split
  · split
    · simp
    · exact ⟨by simp only [List.length_append, List.length_singleton]; omega, Nat.le_refl _⟩
  · simp
theorem lenC (a : Int) (ws bs : List Int) (i : Int) (hw : ws.length ≤ 1000) : (confirmP a ws bs i).2.1.length ≤ 1000 ∧ (confirmP a ws bs i).2.2.1.length ≤ bs.length := by
  unfold confirmP
  split
  · rename_i h
    exact ⟨hw, by rw [cutP_length _ _ h.1 h.2]; omega⟩
  · simp
theorem lenF (a : Int) (ws bs : List Int) (i : Int) (hw : ws.length ≤ 1000) : (forgetP a ws bs i).2.1.length ≤ 1000 ∧ (forgetP a ws bs i).2.2.1.length ≤ bs.length := by
  unfold forgetP
  split
  · rename_i h
    exact ⟨hw, by rw [cutP_length _ _ h.1 h.2]; omega⟩
  · simp

theorem mid_inv (L : List Int) (q : St) (h : Inv L q) (hi : q.i < (L.length : Int)) (x i : Int) (hxi : i = q.i + 1) :
    i ≤ (midP L q x i).i ∧ (midP L q x i).i ≤ (L.length : Int) ∧ 0 ≤ (midP L q x i).s ∧ (midP L q x i).s ≤ q.s + 1 ∧ 0 ≤ (midP L q x i).r ∧ (midP L q x i).r ≤ q.r + 1 ∧ (midP L q x i).ws.length ≤ 1000 ∧ (midP L q x i).bs.length ≤ q.bs.length + 1 := by
  have h1 := h.s0; have h2 := h.r0; have h3 := h.ws
  have n20 := nextP_range L i 20 (by omega) (by omega) (by omega)
  have n3 := nextP_range L i 3 (by omega) (by omega) (by omega)
  have n320 := nextP_range L (nextP L i 3).2 20 (by omega) (by omega) (by omega)
  unfold midP midOf
  split
  · simp only; omega
  · split
    · split
      · have := lenT q.a q.ws q.bs q.s h3
        simp only; omega
      · simp only; omega
    · split
      · have := lenD q.a q.ws q.bs (nextP L i 20).1 q.r h3
        simp only
        refine ⟨by omega, by omega, by omega, by omega, ?_, ?_, by omega, by omega⟩ <;> (split <;> (try split) <;> omega)
      · split
        · have := lenL q.a q.ws q.bs (nextP L i 20).1 h3
          simp only; omega
        · split
          · have := lenR q.a q.ws q.bs (nextP L i 20).1 h3
            simp only; omega
          · split
            · have := lenF q.a q.ws q.bs (nextP L (nextP L i 3).2 20).1 h3
              simp only; omega
            · have := lenC q.a q.ws q.bs (nextP L (nextP L i 3).2 20).1 h3
              simp only; omega

theorem step_inv (L : List Int) (q : St) (h : Inv L q) (hi : q.i < (L.length : Int)) : Inv L (stepP L q) ∧ q.i < (stepP L q).i := by
  have hx : (nextP L q.i 8).2 = q.i + 1 := by unfold nextP; rw [if_pos hi]
  have hm := mid_inv L q h hi (nextP L q.i 8).1 (nextP L q.i 8).2 hx
  have h1 := h.s0; have h2 := h.r0; have h3 := h.ws; have h4 := h.s1; have h5 := h.r1; have h6 := h.bs; have h7 := h.i0
  unfold stepP
  generalize midP L q (nextP L q.i 8).1 (nextP L q.i 8).2 = m at hm ⊢
  unfold endP
  split
  · exact ⟨⟨by simp only; omega, by simp only; omega, by simp only; omega, by simp only; omega, by simp only; omega, by simp only; omega, by simp only; omega, by simp only; omega⟩, by simp only; omega⟩
  · exact ⟨⟨by simp only; omega, by simp only; omega, by simp only; omega, by simp only; omega, by simp only; omega, by simp only; omega, by simp only; omega, by simp only; omega⟩, by simp only; omega⟩

/-! ### The source's next number -/
theorem info43 : (Try.prog.info? 43).map (fun i => (i.zero, i.size)) = some (some (.agg #[.slice none 0 0, .int .i64 0]), 2) := by kernel_rfl

theorem next_any (gS : Nat) (AL : Option Addr) (cL : Nat) (L : List Int) (i m : Int) (w : World) (BS : w.heap[gS]? = some (.cells #[.slice AL L.length cL, .int .i64 i] 43 (0, 0))) (HC : Kd.C (Kd.int .i64) w AL L.length L) (hlen : L.length ≤ 1000)
    (h0 : 0 ≤ i) (hne : 0 < L.length → ∀ ad, AL = some ad → ad.block ≠ gS) (hm : 0 < m) (hm2 : m ≤ 1000) :
    Calls Try.prog 31 #[.pointer (some ⟨gS, 0, none⟩), .int .i64 m] w fun e w' => e = .returned (.int .i64 (nextP L i m).1) ∧ w'.heap[gS]? = some (.cells #[.slice AL L.length cL, .int .i64 (nextP L i m).2] 43 (0, 0)) ∧ KeepBut w w' gS none ∧ (∀ w0 : World, Below w0.heap.size w0 w → w0.heap.size ≤ gS → Below w0.heap.size w0 w') := by
  have hc0 : w.cell? ⟨gS, 0, none⟩ = some (.slice AL L.length cL) := (blk_cell BS 0).trans rfl
  have hc1 : w.cell? ⟨gS, 1, none⟩ = some (.int .i64 i) := (blk_cell BS 1).trans rfl
  have hf1 := blk_frozen BS 1
  by_cases h : i < (L.length : Int)
  · obtain ⟨ad, ead, hx⟩ := Kd.at_int HC i h0 h
    subst ead
    have e : nextP L i m = (withinP (rd L i) m, i + 1) := if_pos h
    rw [e]
    refine (next_calls gS ad L.length cL i m (rd L i) w hc0 hc1 hf1 h0 h hlen hx (hne (by omega) ad rfl) hm hm2).mono ?_
    rintro e w' ⟨rfl, p, q, rfl⟩
    refine ⟨rfl, ?_, ?_, ?_⟩
    · exact blk_drewN (blk_put (cs := #[.slice (some ad) L.length cL, .int .i64 i]) (blk_drewN BS p) 1 _ rfl) q
    · exact keep_drewN (KeepBut.set_ (keep_drewN (KeepBut.refl w gS none) p) 1 _) q
    · intro w0 hb hs
      exact pw_below_drewN (below_set (pw_below_drewN hb p) hs) q
  · have e : nextP L i m = (0, i) := if_neg h
    rw [e]
    refine (next_end gS AL L.length cL i m w hc0 hc1 (by omega)).mono ?_
    rintro e w' ⟨rfl, ⟨q, rfl⟩⟩
    exact ⟨rfl, blk_drewN BS q, keep_drewN (KeepBut.refl w gS none) q, fun w0 hb hs => pw_below_drewN hb q⟩
end Go.Proofs.Ytlhmgigjbeefbaa.XPlay
