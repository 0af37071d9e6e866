/-
  What the functions of the channel compute, in plain Lean: each printed function of the program and of the reference at a line. Conditions: the lists have at most 17592186043904 elements.
-/
import Derived.Test.YtlhmgigjbeefbaaPChannelStepsx2
import Derived.Test.YtlhmgigjbeefbaaPChannelStepsx4
import Derived.Test.YtlhmgigjbeefbaaPChannelStepsx5
import Derived.Test.YtlhmgigjbeefbaaPChannelStepsx6
import Derived.Test.YtlhmgigjbeefbaaPChannelStepsx7
import Derived.KernelRfl
namespace Go.Proofs.Ytlhmgigjbeefbaa.PureLine
set_option linter.unusedVariables false
open Go.RowKit Go.Proofs.Ytlhmgigjbeefbaa.PChannelSteps Go.Proofs.YtlhmgigjbeefbaaW.PrintWords Go.Proofs.YtlhmgigjbeefbaaW.PrintLast Go.Proofs.YtlhmgigjbeefbaaW.PrintMore

theorem wrapS (x : Int) (h1 : -9223372036854775808 ≤ x) (h2 : x < 9223372036854775808) : wrap64 x = x := by unfold wrap64; omega

/-- As Option.bind_some, but not told by computing: simp then leaves a step that the kernel need not compute. -/
theorem bindS {α β : Type} (a : α) (f : α → Option β) : (some a).bind f = f a := (Option.bind_some a f).trans rfl

theorem rd_ge (l : List Int) (i : Nat) (h : i < l.length) : rd l (i : Int) = l[i] := by
  unfold rd
  rw [Int.toNat_natCast, List.getD_eq_getElem?_getD, List.getElem?_eq_getElem h]
  rfl

theorem ifT {α : Type} (a b : α) : (if true = true then a else b) = a := if_pos rfl
theorem ifF {α : Type} (a b : α) : (if false = true then a else b) = b := if_neg (by simp)
abbrev Fit (l : List Int) : Prop := l.length ≤ 17592186043904

theorem clone_ok (l : List Int) (h : l.length < 17592186044416) : slices_Clone_int_int.f l = some l := by
  unfold slices_Clone_int_int.f XJoined.cloneF
  rw [if_pos h]

theorem copyLine_ok (a : Int) (ws bs : List Int) (h1 : ws.length < 17592186044416) (h2 : bs.length < 17592186044416) : channel_copyLine.f a ws bs = some (a, ws, bs) := by
  unfold channel_copyLine.f
  rw [clone_ok ws h1, clone_ok bs h2]
  rfl

theorem sameInts_loop (l : List Int) (hl : l.length < 9223372036854775807) : ∀ (d k : Nat) (i : Int), 0 ≤ i → i + d = l.length → d < k → customsref33_SameInts.l0 k l l i = some true := by
  intro d
  induction d with
  | zero =>
    intro k i h0 h1 hk
    obtain ⟨k, rfl⟩ : ∃ m, k = m + 1 := ⟨k - 1, by omega⟩
    simp only [customsref33_SameInts.l0]
    rw [if_neg (by omega)]
  | succ d ih =>
    intro k i h0 h1 hk
    obtain ⟨k, rfl⟩ : ∃ m, k = m + 1 := ⟨k - 1, by omega⟩
    simp only [customsref33_SameInts.l0]
    rw [if_pos (by omega), if_pos h0, if_pos (by omega), if_pos trivial, wrapS _ (by omega) (by omega)]
    exact ih k (i + 1) (by omega) (by omega) (by omega)

theorem sameInts_ok (l : List Int) (k : Nat) (hl : l.length < 9223372036854775807) (hk : l.length < k) : customsref33_SameInts.f k l l = some true := by
  unfold customsref33_SameInts.f
  rw [if_pos rfl]
  exact sameInts_loop l hl l.length k 0 (by omega) (by omega) hk

theorem sameLine_ok (k : Nat) (a : Int) (ws bs : List Int) (h1 : ws.length < 9223372036854775807) (h2 : bs.length < 9223372036854775807) (hk1 : ws.length < k) (hk2 : bs.length < k) :
    customsref33_SameLine.f k a ws bs a ws bs = some true := by
  unfold customsref33_SameLine.f
  rw [if_pos rfl, sameInts_ok ws k h1 hk1]
  simp only [bindS]
  (first | rw [ifT] | rw [if_pos trivial] | rw [if_pos rfl])
  rw [sameInts_ok bs k h2 hk2]
  rfl

/-! ### Transmit -/
def span (n : Int) : Nat → List Int
  | 0 => []
  | m + 1 => n :: span (n + 1) m
theorem span_length : ∀ (m : Nat) (n : Int), (span n m).length = m
  | 0, _ => rfl
  | m + 1, n => by simp only [span, List.length_cons, span_length m (n + 1)]

theorem transmit_loop (a s : Int) (bs : List Int) (hs : s ≤ 1000000) : ∀ (m k : Nat) (n : Int) (ws : List Int), s - n + 1 = m → -1000000 ≤ n → ws.length + m ≤ 17592186044416 → m < k →
    channel_Transmit.l0 k s n a ws bs = some (a, ws ++ span n m, bs, 0) := by
  intro m
  induction m with
  | zero =>
    intro k n ws h1 h2 h3 hk
    obtain ⟨k, rfl⟩ : ∃ m, k = m + 1 := ⟨k - 1, by omega⟩
    simp only [channel_Transmit.l0, span, List.append_nil]
    rw [if_neg (by omega)]
  | succ m ih =>
    intro k n ws h1 h2 h3 hk
    obtain ⟨k, rfl⟩ : ∃ m, k = m + 1 := ⟨k - 1, by omega⟩
    simp only [channel_Transmit.l0]
    rw [if_pos (by omega), if_pos (by omega), wrapS _ (by omega) (by omega), ih k (n + 1) (ws ++ [n]) (by omega) (by omega) (by simp only [List.length_append, List.length_singleton]; omega) (by omega)]
    simp only [span, List.append_assoc, List.cons_append, List.nil_append]

theorem refTransmit_loop (a s : Int) (os bs : List Int) (hs : s ≤ 1000000) : ∀ (m k : Nat) (n : Int) (ws : List Int), s - n + 1 = m → -1000000 ≤ n → ws.length + m ≤ 17592186044416 → m < k →
    customsref33_Transmit.l0 k s ws n a os bs = some (a, ws ++ span n m, bs, 0) := by
  intro m
  induction m with
  | zero =>
    intro k n ws h1 h2 h3 hk
    obtain ⟨k, rfl⟩ : ∃ m, k = m + 1 := ⟨k - 1, by omega⟩
    simp only [customsref33_Transmit.l0, span, List.append_nil]
    rw [if_neg (by omega)]
  | succ m ih =>
    intro k n ws h1 h2 h3 hk
    obtain ⟨k, rfl⟩ : ∃ m, k = m + 1 := ⟨k - 1, by omega⟩
    simp only [customsref33_Transmit.l0]
    rw [if_pos (by omega), if_pos (by omega), wrapS _ (by omega) (by omega), ih k (n + 1) (ws ++ [n]) (by omega) (by omega) (by simp only [List.length_append, List.length_singleton]; omega) (by omega)]
    simp only [span, List.append_assoc, List.cons_append, List.nil_append]

/-- What Transmit answers, whatever the line. -/
def transmitP (a : Int) (ws bs : List Int) (s : Int) : Int × List Int × List Int × Int :=
  if a < 0 ∨ s < a ∨ s > 1000000 then (0, [], [], 2) else if (ws.length : Int) + s - a > 1000 then (0, [], [], 8) else (a, ws ++ span (a + 1) (s - a).toNat, bs, 0)

theorem transmit_ok (a : Int) (ws bs : List Int) (s : Int) (h1 : Fit ws) (h2 : Fit bs) (k : Nat) (hk : 1002 < k) : channel_Transmit.f k a ws bs s = some (transmitP a ws bs s) := by
  unfold Fit at h1 h2
  obtain ⟨k, rfl⟩ : ∃ m, k = m + 1 := ⟨k - 1, by omega⟩
  unfold channel_Transmit.f transmitP
  by_cases ha : a < 0
  · rw [if_pos ha, if_pos (Or.inl ha)]
    simp only [channel_Transmit.j0]
    (first | rw [ifT] | rw [if_pos trivial] | rw [if_pos rfl])
  · rw [if_neg ha]
    by_cases hb : s < a
    · rw [if_pos hb, if_pos (Or.inr (Or.inl hb))]
      simp only [channel_Transmit.j0]
      (first | rw [ifT] | rw [if_pos trivial] | rw [if_pos rfl])
    · rw [if_neg hb]
      simp only [channel_Transmit.j0]
      by_cases hc : s > 1000000
      · rw [decide_eq_true hc]
        (first | rw [ifT] | rw [if_pos trivial] | rw [if_pos rfl])
        rw [if_pos (Or.inr (Or.inr hc))]
      · rw [decide_eq_false hc]
        (first | rw [ifF] | rw [if_neg not_false])
        rw [if_neg (c := a < 0 ∨ s < a ∨ s > 1000000) (by omega)]
        rw [wrapS ((ws.length : Int) + s) (by omega) (by omega), wrapS _ (by omega) (by omega)]
        by_cases hd : (ws.length : Int) + s - a > 1000
        · rw [if_pos hd, if_pos hd]
        · rw [if_neg hd, if_neg hd, copyLine_ok a ws bs (by omega) (by omega)]
          simp only [bindS]
          rw [wrapS _ (by omega) (by omega)]
          exact transmit_loop a s bs (by omega) (s - a).toNat k (a + 1) ws (by omega) (by omega) (by omega) (by omega)

theorem refTransmit_ok (a : Int) (ws bs : List Int) (s : Int) (h1 : Fit ws) (h2 : Fit bs) (k : Nat) (hk : 1002 < k) : customsref33_Transmit.f k a ws bs s = some (transmitP a ws bs s) := by
  unfold Fit at h1 h2
  obtain ⟨k, rfl⟩ : ∃ m, k = m + 1 := ⟨k - 1, by omega⟩
  unfold customsref33_Transmit.f transmitP
  by_cases ha : a < 0
  · rw [if_pos ha, if_pos (Or.inl ha)]
    simp only [customsref33_Transmit.j0]
    (first | rw [ifT] | rw [if_pos trivial] | rw [if_pos rfl])
  · rw [if_neg ha]
    by_cases hb : s < a
    · rw [if_pos hb, if_pos (Or.inr (Or.inl hb))]
      simp only [customsref33_Transmit.j0]
      (first | rw [ifT] | rw [if_pos trivial] | rw [if_pos rfl])
    · rw [if_neg hb]
      simp only [customsref33_Transmit.j0]
      by_cases hc : s > 1000000
      · rw [decide_eq_true hc]
        (first | rw [ifT] | rw [if_pos trivial] | rw [if_pos rfl])
        rw [if_pos (Or.inr (Or.inr hc))]
      · rw [decide_eq_false hc]
        (first | rw [ifF] | rw [if_neg not_false])
        rw [if_neg (c := a < 0 ∨ s < a ∨ s > 1000000) (by omega)]
        rw [wrapS (s - a) (by omega) (by omega), wrapS (1000 - (ws.length : Int)) (by omega) (by omega)]
        by_cases hd : (ws.length : Int) + s - a > 1000
        · rw [if_pos (by omega), if_pos hd]
        · rw [if_neg (by omega), if_neg hd]
          simp only [bindS, List.nil_append, List.length_nil]
          rw [if_pos (by omega), wrapS _ (by omega) (by omega)]
          exact refTransmit_loop a s ws bs (by omega) (s - a).toNat k (a + 1) ws (by omega) (by omega) (by omega) (by omega)

theorem transmitP_len (a : Int) (ws bs : List Int) (s : Int) : (transmitP a ws bs s).2.1.length ≤ ws.length + 1000 ∧ (transmitP a ws bs s).2.2.1.length ≤ bs.length := by
  unfold transmitP
  split
  · simp
  · split
    · simp
    · simp only [List.length_append, span_length]
      omega

/-! ### One element taken out -/
def cutP (l : List Int) (i : Int) : List Int := l.take i.toNat ++ l.drop (i + 1).toNat
theorem cutP_length (l : List Int) (i : Int) (h0 : 0 ≤ i) (h1 : i < l.length) : (cutP l i).length = l.length - 1 := by
  unfold cutP
  simp only [List.length_append, List.length_take, List.length_drop]
  omega

theorem at_ok (l : List Int) (i : Int) : channel_at.f l i = some (decide (0 ≤ i ∧ i < l.length)) := by
  unfold channel_at.f
  by_cases h : i ≥ 0
  · rw [if_pos h]
    by_cases h2 : i < l.length
    · rw [decide_eq_true h2, decide_eq_true ⟨h, h2⟩]
    · rw [decide_eq_false h2, decide_eq_false (fun x => h2 x.2)]
  · rw [if_neg h, decide_eq_false (fun x => h x.1)]

theorem delete_ok (l : List Int) (i : Int) (h0 : 0 ≤ i) (h1 : i < l.length) : slices_Delete_int_int.f l i (i + 1) = some (cutP l i) := by
  unfold slices_Delete_int_int.f XJoined.deleteF
  rw [if_pos ⟨h0, by omega, by omega, by omega⟩]
  rfl

theorem out_ok (l : List Int) (i : Int) (h0 : 0 ≤ i) (h1 : i < l.length) (hl : Fit l) : customsref33_out.f l i = some (cutP l i) := by
  unfold Fit at hl
  unfold customsref33_out.f
  simp only [bindS, List.nil_append, List.length_nil]
  rw [if_pos h0, if_pos (by omega), if_pos (by rw [List.length_take]; omega), wrapS (i + 1) (by omega) (by omega), if_pos (by omega), if_pos (by omega), if_pos (by rw [List.length_take, List.length_drop]; omega)]
  rfl

/-! ### Deliver -/
def acceptP (n r : Int) : Int := if n = r + 1 then n else r
def deliverP (a : Int) (ws bs : List Int) (i r : Int) : Int × List Int × List Int × Int × Int :=
  if 0 ≤ i ∧ i < ws.length ∧ 0 ≤ r ∧ r ≤ 1000000 then (a, cutP ws i, bs ++ [acceptP (rd ws i) r], rd ws i, 0) else (0, [], [], 0, 2)

theorem deliver_ok (a : Int) (ws bs : List Int) (i r : Int) (h1 : Fit ws) (h2 : Fit bs) (k : Nat) (hk : 0 < k) : channel_Deliver.f k a ws bs i r = some (deliverP a ws bs i r) := by
  unfold Fit at h1 h2
  obtain ⟨k, rfl⟩ : ∃ m, k = m + 1 := ⟨k - 1, by omega⟩
  unfold channel_Deliver.f deliverP
  rw [at_ok]
  simp only [bindS, channel_Deliver.j0]
  by_cases hi : 0 ≤ i ∧ i < ws.length
  · rw [decide_eq_true hi]
    (first | rw [ifT] | rw [if_pos trivial] | rw [if_pos rfl])
    by_cases hr : r < 0
    · rw [if_pos hr]
      (first | rw [ifT] | rw [if_pos trivial] | rw [if_pos rfl])
      rw [if_neg (by omega)]
    · rw [if_neg hr]
      by_cases hr2 : r > 1000000
      · rw [decide_eq_true hr2]
        (first | rw [ifT] | rw [if_pos trivial] | rw [if_pos rfl])
        rw [if_neg (by omega)]
      · rw [decide_eq_false hr2]
        (first | rw [ifF] | rw [if_neg not_false])
        rw [if_pos (c := 0 ≤ i ∧ i < ws.length ∧ 0 ≤ r ∧ r ≤ 1000000) (by omega), copyLine_ok a ws bs (by omega) (by omega)]
        simp only [bindS]
        rw [if_pos hi.1, if_pos hi.2, wrapS (i + 1) (by omega) (by omega), delete_ok ws i hi.1 hi.2]
        simp only [bindS]
        have e : channel_accept.f (rd ws i) r = some (acceptP (rd ws i) r) := by
          unfold channel_accept.f acceptP
          rw [wrapS (r + 1) (by omega) (by omega)]
          split <;> rfl
        rw [e]
        simp only [bindS]
        rw [if_pos (by omega)]
  · rw [decide_eq_false hi]
    (first | rw [ifF] | rw [if_neg not_false])
    (first | rw [ifT] | rw [if_pos trivial] | rw [if_pos rfl])
    rw [if_neg (by omega)]

theorem refDeliver_ok (a : Int) (ws bs : List Int) (i r : Int) (h1 : Fit ws) (h2 : Fit bs) (k : Nat) (hk : 0 < k) : customsref33_Deliver.f k a ws bs i r = some (deliverP a ws bs i r) := by
  have g1 := h1
  unfold Fit at h1 h2
  obtain ⟨k, rfl⟩ : ∃ m, k = m + 1 := ⟨k - 1, by omega⟩
  unfold customsref33_Deliver.f deliverP
  simp only [customsref33_Deliver.j0]
  by_cases hi : i < 0
  · rw [if_pos hi]
    (first | rw [ifT] | rw [if_pos trivial] | rw [if_pos rfl])
    rw [if_neg (by omega)]
  · rw [if_neg hi]
    by_cases hj : i ≥ ws.length
    · rw [if_pos hj]
      (first | rw [ifT] | rw [if_pos trivial] | rw [if_pos rfl])
      rw [if_neg (by omega)]
    · rw [if_neg hj]
      by_cases hr : r < 0
      · rw [if_pos hr]
        (first | rw [ifT] | rw [if_pos trivial] | rw [if_pos rfl])
        rw [if_neg (by omega)]
      · rw [if_neg hr]
        by_cases hr2 : r > 1000000
        · rw [decide_eq_true hr2]
          (first | rw [ifT] | rw [if_pos trivial] | rw [if_pos rfl])
          rw [if_neg (by omega)]
        · rw [decide_eq_false hr2]
          (first | rw [ifF] | rw [if_neg not_false])
          rw [if_pos (c := 0 ≤ i ∧ i < ws.length ∧ 0 ≤ r ∧ r ≤ 1000000) (by omega), if_pos (by omega), if_pos (by omega), wrapS (r + 1) (by omega) (by omega)]
          unfold acceptP
          by_cases hn : rd ws i = r + 1
          · rw [if_pos hn, if_pos hn, out_ok ws i (by omega) (by omega) g1]
            simp only [bindS, List.nil_append, List.length_nil, List.length_singleton]
            rw [if_pos (by omega), if_pos (by omega)]
          · rw [if_neg hn, if_neg hn, out_ok ws i (by omega) (by omega) g1]
            simp only [bindS, List.nil_append, List.length_nil, List.length_singleton]
            rw [if_pos (by omega), if_pos (by omega)]

/-! ### Lose, Repeat, Confirm, Forget -/
def loseP (a : Int) (ws bs : List Int) (i : Int) : Int × List Int × List Int × Int := if 0 ≤ i ∧ i < ws.length then (a, cutP ws i, bs, 0) else (0, [], [], 2)
def repeatP (a : Int) (ws bs : List Int) (i : Int) : Int × List Int × List Int × Int :=
  if 0 ≤ i ∧ i < ws.length then (if (ws.length : Int) ≥ 1000 then (0, [], [], 8) else (a, ws ++ [rd ws i], bs, 0)) else (0, [], [], 2)
def confirmP (a : Int) (ws bs : List Int) (i : Int) : Int × List Int × List Int × Int := if 0 ≤ i ∧ i < bs.length then (mx a (rd bs i), ws, cutP bs i, 0) else (0, [], [], 2)
def forgetP (a : Int) (ws bs : List Int) (i : Int) : Int × List Int × List Int × Int := if 0 ≤ i ∧ i < bs.length then (a, ws, cutP bs i, 0) else (0, [], [], 2)

theorem lose_ok (a : Int) (ws bs : List Int) (i : Int) (h1 : Fit ws) (h2 : Fit bs) : channel_Lose.f a ws bs i = some (loseP a ws bs i) := by
  unfold Fit at h1 h2
  unfold channel_Lose.f loseP
  rw [at_ok]
  simp only [bindS]
  by_cases hi : 0 ≤ i ∧ i < ws.length
  · rw [decide_eq_true hi]
    (first | rw [ifT] | rw [if_pos trivial] | rw [if_pos rfl])
    rw [if_pos hi, copyLine_ok a ws bs (by omega) (by omega)]
    simp only [bindS]
    rw [wrapS (i + 1) (by omega) (by omega), delete_ok ws i hi.1 hi.2]
    rfl
  · rw [decide_eq_false hi]
    (first | rw [ifF] | rw [if_neg not_false])
    rw [if_neg hi]

theorem refLose_ok (a : Int) (ws bs : List Int) (i : Int) (h1 : Fit ws) (h2 : Fit bs) : customsref33_Lose.f a ws bs i = some (loseP a ws bs i) := by
  have g1 := h1
  unfold Fit at h1 h2
  unfold customsref33_Lose.f loseP
  by_cases hi : i < 0
  · rw [if_pos hi, if_neg (by omega)]
  · rw [if_neg hi]
    by_cases hj : i ≥ ws.length
    · rw [if_pos hj, if_neg (by omega)]
    · rw [if_neg hj, if_pos (by omega), out_ok ws i (by omega) (by omega) g1]
      rfl

theorem repeat_ok (a : Int) (ws bs : List Int) (i : Int) (h1 : Fit ws) (h2 : Fit bs) : channel_Repeat.f a ws bs i = some (repeatP a ws bs i) := by
  unfold Fit at h1 h2
  unfold channel_Repeat.f repeatP
  rw [at_ok]
  simp only [bindS]
  by_cases hi : 0 ≤ i ∧ i < ws.length
  · rw [decide_eq_true hi]
    (first | rw [ifT] | rw [if_pos trivial] | rw [if_pos rfl])
    rw [if_pos hi]
    by_cases hc : (ws.length : Int) ≥ 1000
    · rw [if_pos hc, if_pos hc]
    · rw [if_neg hc, if_neg hc, copyLine_ok a ws bs (by omega) (by omega)]
      simp only [bindS]
      rw [if_pos hi.1, if_pos hi.2, if_pos (by omega)]
  · rw [decide_eq_false hi]
    (first | rw [ifF] | rw [if_neg not_false])
    rw [if_neg hi]

theorem refRepeat_ok (a : Int) (ws bs : List Int) (i : Int) (h1 : Fit ws) (h2 : Fit bs) (k : Nat) (hk : 0 < k) : customsref33_Repeat.f k a ws bs i = some (repeatP a ws bs i) := by
  unfold Fit at h1 h2
  obtain ⟨k, rfl⟩ : ∃ m, k = m + 1 := ⟨k - 1, by omega⟩
  unfold customsref33_Repeat.f repeatP
  simp only [customsref33_Repeat.j0]
  by_cases hi : i < 0
  · rw [if_pos hi]
    (first | rw [ifT] | rw [if_pos trivial] | rw [if_pos rfl])
    rw [if_neg (by omega)]
  · rw [if_neg hi]
    by_cases hj : i ≥ ws.length
    · rw [decide_eq_true hj]
      (first | rw [ifT] | rw [if_pos trivial] | rw [if_pos rfl])
      rw [if_neg (by omega)]
    · rw [decide_eq_false hj]
      (first | rw [ifF] | rw [if_neg not_false])
      rw [if_pos (c := 0 ≤ i ∧ i < ws.length) (by omega)]
      by_cases hc : (ws.length : Int) ≥ 1000
      · rw [if_pos hc, if_pos hc]
      · rw [if_neg hc, if_neg hc]
        simp only [bindS, List.nil_append, List.length_nil, List.length_singleton]
        rw [if_pos (by omega), if_pos (by omega), if_pos (by omega), if_pos (by omega)]

theorem confirm_ok (a : Int) (ws bs : List Int) (i : Int) (h1 : Fit ws) (h2 : Fit bs) : channel_Confirm.f a ws bs i = some (confirmP a ws bs i) := by
  unfold Fit at h1 h2
  unfold channel_Confirm.f confirmP
  rw [at_ok]
  simp only [bindS]
  by_cases hi : 0 ≤ i ∧ i < bs.length
  · rw [decide_eq_true hi]
    (first | rw [ifT] | rw [if_pos trivial] | rw [if_pos rfl])
    rw [if_pos hi, copyLine_ok a ws bs (by omega) (by omega)]
    simp only [bindS]
    rw [if_pos hi.1, if_pos hi.2, wrapS (i + 1) (by omega) (by omega), delete_ok bs i hi.1 hi.2]
    rfl
  · rw [decide_eq_false hi]
    (first | rw [ifF] | rw [if_neg not_false])
    rw [if_neg hi]

theorem refConfirm_ok (a : Int) (ws bs : List Int) (i : Int) (h1 : Fit ws) (h2 : Fit bs) : customsref33_Confirm.f a ws bs i = some (confirmP a ws bs i) := by
  have g2 := h2
  unfold Fit at h1 h2
  unfold customsref33_Confirm.f confirmP
  by_cases hi : i < 0
  · rw [if_pos hi, if_neg (by omega)]
  · rw [if_neg hi]
    by_cases hj : i ≥ bs.length
    · rw [if_pos hj, if_neg (by omega)]
    · rw [if_neg hj, if_pos (by omega), if_pos (by omega), if_pos (by omega), out_ok bs i (by omega) (by omega) g2]
      rfl

theorem forget_ok (a : Int) (ws bs : List Int) (i : Int) (h1 : Fit ws) (h2 : Fit bs) : channel_Forget.f a ws bs i = some (forgetP a ws bs i) := by
  unfold Fit at h1 h2
  unfold channel_Forget.f forgetP
  rw [at_ok]
  simp only [bindS]
  by_cases hi : 0 ≤ i ∧ i < bs.length
  · rw [decide_eq_true hi]
    (first | rw [ifT] | rw [if_pos trivial] | rw [if_pos rfl])
    rw [if_pos hi, copyLine_ok a ws bs (by omega) (by omega)]
    simp only [bindS]
    rw [wrapS (i + 1) (by omega) (by omega), delete_ok bs i hi.1 hi.2]
    rfl
  · rw [decide_eq_false hi]
    (first | rw [ifF] | rw [if_neg not_false])
    rw [if_neg hi]

theorem refForget_ok (a : Int) (ws bs : List Int) (i : Int) (h1 : Fit ws) (h2 : Fit bs) : customsref33_Forget.f a ws bs i = some (forgetP a ws bs i) := by
  have g2 := h2
  unfold Fit at h1 h2
  unfold customsref33_Forget.f forgetP
  by_cases hi : i < 0
  · rw [if_pos hi, if_neg (by omega)]
  · rw [if_neg hi]
    by_cases hj : i ≥ bs.length
    · rw [if_pos hj, if_neg (by omega)]
    · rw [if_neg hj, if_pos (by omega), out_ok bs i (by omega) (by omega) g2]
      rfl

/-! ### Within, Idle -/
def withinP (a b : Int) : Int := Int.tmod (Int.tmod a b + b) b
theorem within_ok (a b : Int) (h0 : 0 < b) (h1 : b ≤ 1000000000) : customsmade_Within.f a b = some (withinP a b) ∧ 0 ≤ withinP a b ∧ withinP a b < b := by
  have t1 := Int.tmod_lt_of_pos a h0
  have t2 : -b < Int.tmod a b := by
    have := Int.tmod_lt_of_pos (-a) h0
    rw [Int.neg_tmod] at this
    omega
  unfold customsmade_Within.f withinP
  rw [if_neg (by omega), wrapS _ (by omega) (by omega)]
  exact ⟨rfl, Int.tmod_nonneg b (by omega), Int.tmod_lt_of_pos _ h0⟩
theorem idle_same (a : Int) (ws bs : List Int) (s : Int) : customsref33_Idle.f a ws bs s = channel_Idle.f a ws bs s := rfl
theorem idle_some (a : Int) (ws bs : List Int) (s : Int) : ∃ b, channel_Idle.f a ws bs s = some b := by
  unfold channel_Idle.f
  split
  · split <;> exact ⟨_, rfl⟩
  · exact ⟨_, rfl⟩
theorem awake_ok : ∀ k, 60 ≤ k → customslaw38_awake.f k = some true := by
  intro k hk
  have h0 : customslaw38_awake.f 60 = some true := by kernel_rfl
  exact at_rounds (fun k => customslaw38_awake.mono k) hk h0
end Go.Proofs.Ytlhmgigjbeefbaa.PureLine
