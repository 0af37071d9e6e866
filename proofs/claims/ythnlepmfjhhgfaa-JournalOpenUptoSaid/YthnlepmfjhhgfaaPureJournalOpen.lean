/-
  The pure statement of the law JournalOpen: the printed functions answer true. (Put together by wip/prt/frag/pure.py.)
-/
import Derived.Test.YthnlepmfjhhgfaaPJournalOpenx8
import Derived.Test.YthnlepmfjhhgfaaPureFrame
import Derived.KernelRfl
namespace Go.Proofs.Ythnlepmfjhhgfaa.PureJournalOpen
set_option linter.unusedVariables false
open Go.RowKit Go.Proofs.Ythnlepmfjhhgfaa.PJournalOpen Go.Proofs.Ythnlepmfjhhgfaa.PureFrame Go.Proofs.YthnlepmfjhhgfaaW.PrintWords Go.Proofs.YthnlepmfjhhgfaaW.PrintLast Go.Proofs.YthnlepmfjhhgfaaW.PrintMore

theorem num_step (k : Nat) (n : Int) (l : List Int) (i : Nat) (hi : i < l.length) (hl : l.length ≤ 140737488355328) (n0 : 0 ≤ n) (n1 : n < 16777216) (hb : Bytes l) :
    journal_number.l0 (k + 1) n l (l.length : Int) (i : Int) = journal_number.l0 k (n * 256 + l[i]) l (l.length : Int) ((i + 1 : Nat) : Int) := by
  have hx := hb l[i] (List.getElem_mem hi)
  rw [journal_number.l0, if_pos (by omega), if_pos (by omega), if_pos (by omega), rd_ge l i hi, or_byte _ _ n0 n1 hx.1 hx.2, wrapS _ (by omega) (by omega)]
  rfl

theorem num_end (k : Nat) (n : Int) (l : List Int) : journal_number.l0 (k + 1) n l (l.length : Int) (l.length : Int) = some n := by
  rw [journal_number.l0, if_neg (by omega)]

theorem number2 (k : Nat) (a b : Int) (hb : Bytes [a, b]) : journal_number.f (k + 3) [a, b] = some (a * 256 + b) := by
  have h0 := hb a (by simp)
  have h1 := hb b (by simp)
  unfold journal_number.f
  have s0 := num_step (k + 2) 0 [a, b] 0 (by simp) (by simp) (by omega) (by omega) hb
  have s1 := num_step (k + 1) (0 * 256 + a) [a, b] 1 (by simp) (by simp) (by omega) (by omega) hb
  have s2 := num_end k ((0 * 256 + a) * 256 + b) [a, b]
  refine (s0.trans (s1.trans (s2.trans ?_)))
  congr 1
  omega

theorem number4 (k : Nat) (a b c d : Int) (hb : Bytes [a, b, c, d]) : journal_number.f (k + 5) [a, b, c, d] = some (a * 16777216 + b * 65536 + c * 256 + d) := by
  have h0 := hb a (by simp)
  have h1 := hb b (by simp)
  have h2 := hb c (by simp)
  have h3 := hb d (by simp)
  unfold journal_number.f
  have s0 := num_step (k + 4) 0 [a, b, c, d] 0 (by simp) (by simp) (by omega) (by omega) hb
  have s1 := num_step (k + 3) (0 * 256 + a) [a, b, c, d] 1 (by simp) (by simp) (by omega) (by omega) hb
  have s2 := num_step (k + 2) ((0 * 256 + a) * 256 + b) [a, b, c, d] 2 (by simp) (by simp) (by omega) (by omega) hb
  have s3 := num_step (k + 1) (((0 * 256 + a) * 256 + b) * 256 + c) [a, b, c, d] 3 (by simp) (by simp) (by omega) (by omega) hb
  have s4 := num_end k ((((0 * 256 + a) * 256 + b) * 256 + c) * 256 + d) [a, b, c, d]
  refine (s0.trans (s1.trans (s2.trans (s3.trans (s4.trans ?_)))))
  congr 1
  omega

theorem cks_loop (l : List Int) (hb : Bytes l) (hl : l.length ≤ 140737488355328) : ∀ (m i : Nat) (a b : Int) (k : Nat), i + m = l.length → m < k → 0 ≤ a → a < 65521 → 0 ≤ b → b < 65521 →
    message_Checksum.l0 k a b l (l.length : Int) (i : Int) = some ((cksP (l.drop i) a b).2 * 65536 + (cksP (l.drop i) a b).1) := by
  intro m
  induction m with
  | zero =>
    intro i a b k hi hk a0 a1 b0 b1
    obtain ⟨k, rfl⟩ : ∃ j, k = j + 1 := ⟨k - 1, by omega⟩
    rw [message_Checksum.l0, if_neg (by omega), List.drop_eq_nil_of_le (by omega)]
    unfold cksP
    rw [wrapS (b * 65536) (by omega) (by omega), wrapS _ (by omega) (by omega)]
  | succ m ih =>
    intro i a b k hi hk a0 a1 b0 b1
    obtain ⟨k, rfl⟩ : ∃ j, k = j + 1 := ⟨k - 1, by omega⟩
    have hlt : i < l.length := by omega
    have hx := hb l[i] (List.getElem_mem hlt)
    rw [message_Checksum.l0, if_pos (by omega), if_pos (by omega), if_pos (by omega), rd_ge l i hlt, wrapS l[i] (by omega) (by omega), wrapS (a + l[i]) (by omega) (by omega),
      Int.tmod_eq_emod_of_nonneg (by omega), wrapS (b + (a + l[i]) % 65521) (by omega) (by omega), Int.tmod_eq_emod_of_nonneg (by omega), wrapS ((i : Int) + 1) (by omega) (by omega)]
    rw [List.drop_eq_getElem_cons hlt]
    exact ih (i + 1) _ _ k (by omega) (by omega) (by omega) (by omega) (by omega) (by omega)

theorem cks_ok (l : List Int) (hb : Bytes l) (hl : l.length ≤ 140737488355328) (k : Nat) (hk : l.length < k) : message_Checksum.f k l = some (cks l) := by
  unfold message_Checksum.f
  exact cks_loop l hb hl l.length 0 1 0 k (by omega) hk (by omega) (by omega) (by omega) (by omega)

theorem valid_ok (kind : Int) : journal_validKind.f kind = some (decide (kind = 1 ∨ kind = 2)) := by
  unfold journal_validKind.f
  by_cases h : kind = 1
  · rw [if_pos h]; simp [h]
  · rw [if_neg h]
    by_cases h2 : kind = 2
    · simp [h2]
    · simp [h, h2]

theorem encode_ok (kind : Int) (p : List Int) (k : Nat) (g : GoodF kind p) (hb : Bytes p) (hk : p.length + 6 ≤ k) : journal_Encode.f k kind p = some (frame kind p, 0) := by
  have g2 := g.2
  unfold journal_Encode.f
  rw [valid_ok]
  simp only [Option.bind_some, g.1, decide_true, if_true]
  rw [if_neg (by omega), wrapS (5 + (p.length : Int)) (by omega) (by omega), wrapS (5 + (p.length : Int) + 4) (by omega) (by omega), wrapS (65535 - (p.length : Int)) (by omega) (by omega), if_pos (by omega), if_pos (by omega)]
  simp only [List.nil_append, List.length_nil, List.length_cons, Nat.zero_add]
  rw [if_pos (by omega), if_pos (by omega)]
  have e : ([(p.length : Int) / 256 % 256, (p.length : Int) % 256, (65535 - (p.length : Int)) / 256 % 256, (65535 - (p.length : Int)) % 256, kind % 256] ++ p) = body kind p := rfl
  rw [e, cks_ok _ (body_bytes hb) (by rw [body_length]; omega) k (by rw [body_length]; omega)]
  simp only [Option.bind_some]
  rw [if_pos (by rw [body_length]; omega)]
  rfl

theorem encode_kind (kind : Int) (p : List Int) (k : Nat) (h : ¬ (kind = 1 ∨ kind = 2)) : journal_Encode.f k kind p = some ([], 2) := by
  unfold journal_Encode.f
  rw [valid_ok]
  simp [h]

theorem encode_long (kind : Int) (p : List Int) (k : Nat) (h : kind = 1 ∨ kind = 2) (h2 : 60000 < p.length) : journal_Encode.f k kind p = some ([], 8) := by
  unfold journal_Encode.f
  rw [valid_ok]
  simp only [Option.bind_some, h, decide_true, if_true]
  rw [if_pos (by omega)]

theorem scan_frame (k : Nat) (x0 : List Int) (out : List S43) (pos : Nat) (kind : Int) (p z : List Int) (g : GoodF kind p) (hb : Bytes p) (hd : x0.drop pos = frame kind p ++ z) (hx : x0.length ≤ 140737488355328) (ho : out.length < 4398046511104) (hk : p.length + 20 ≤ k) :
    journal_Scan.l0 (k + 2) x0 out (pos : Int) = journal_Scan.l0 k x0 (out ++ [(⟨kind, p⟩ : S43)]) ((pos + (p.length + 9) : Nat) : Int) := by
  have g1 := g.1
  have g2 := g.2
  have hle : pos + (p.length + 9) ≤ x0.length := by
    have := congrArg List.length hd
    rw [List.length_drop, List.length_append, frame_length] at this
    omega
  have hyl : ((frame kind p ++ z).length : Int) = (p.length : Int) + 9 + z.length := by rw [List.length_append, frame_length]; omega
  have hzl : pos + (p.length + 9) + z.length = x0.length := by
    have := congrArg List.length hd
    rw [List.length_drop, List.length_append, frame_length] at this
    omega
  have e2 : (frame kind p ++ z).take 2 = [(p.length : Int) / 256 % 256, (p.length : Int) % 256] := rfl
  have e4 : ((frame kind p ++ z).take 4).drop 2 = [(65535 - (p.length : Int)) / 256 % 256, (65535 - (p.length : Int)) % 256] := rfl
  have b2 : Bytes [(p.length : Int) / 256 % 256, (p.length : Int) % 256] := by intro x hx; simp at hx; omega
  have b4 : Bytes [(65535 - (p.length : Int)) / 256 % 256, (65535 - (p.length : Int)) % 256] := by intro x hx; simp at hx; omega
  obtain ⟨j, rfl⟩ : ∃ j, k = j + 5 := ⟨k - 5, by omega⟩
  rw [journal_Scan.l0, if_pos (by omega), if_pos (by omega), Int.toNat_natCast, hd]
  simp only [Option.bind_some]
  rw [if_neg (by omega), if_pos (by omega), e2, number2 _ _ _ b2]
  simp only [Option.bind_some]
  rw [if_pos (by omega), if_pos (by omega), if_pos (by omega), e4, number2 _ _ _ b4]
  simp only [Option.bind_some]
  have n1 : (p.length : Int) / 256 % 256 * 256 + (p.length : Int) % 256 = p.length := by omega
  have n2 : (65535 - (p.length : Int)) / 256 % 256 * 256 + (65535 - (p.length : Int)) % 256 = 65535 - p.length := by omega
  have k1 : wrap64 (kind % 256) = kind := by rw [wrapS _ (by omega) (by omega)]; omega
  have w1 : wrap64 (5 + (p.length : Int)) = 5 + (p.length : Int) := wrapS _ (by omega) (by omega)
  have e5 : rd (frame kind p ++ z) 4 = kind % 256 := rfl
  rw [n1, n2, e5, k1, w1]
  clear e5 k1 w1 n1 n2
  rw [ wrapS ((p.length : Int) + (65535 - (p.length : Int))) (by omega) (by omega), if_pos (by omega), valid_ok]
  simp only [Option.bind_some, g1, decide_true, if_true]
  have hw : wrap64 (5 + (p.length : Int) + 4) = (p.length : Int) + 9 := by rw [wrapS _ (by omega) (by omega)]; omega
  have hf : ¬ (decide ((p.length : Int) > 60000) = true) := by rw [decide_eq_true_eq]; omega
  rw [journal_Scan.j1, if_neg hf, hw]
  rw [if_neg (show ¬ (((frame kind p ++ z).length : Int) < (p.length : Int) + 9) by omega)]
  rw [if_pos (show 0 ≤ 5 + (p.length : Int) by omega)]
  rw [if_pos (show 5 + (p.length : Int) ≤ ((frame kind p ++ z).length : Int) by omega)]
  have t1 : (5 + (p.length : Int)).toNat = (body kind p).length := by rw [body_length]; omega
  have t2 : ((p.length : Int) + 9).toNat = (frame kind p).length := by rw [frame_length]; omega
  have e6 : (frame kind p ++ z).take (body kind p).length = body kind p := by unfold frame; rw [List.append_assoc, List.take_left]
  have e7 : ((frame kind p ++ z).take (frame kind p).length).drop (body kind p).length = tail4 (cks (body kind p)) := by rw [List.take_left]; unfold frame; rw [List.drop_left]
  rw [t1, t2, e6, e7, cks_ok _ (body_bytes hb) (by rw [body_length]; omega) _ (by rw [body_length]; omega)]
  simp only [Option.bind_some]
  rw [if_pos (show 5 + (p.length : Int) ≤ (p.length : Int) + 9 by omega)]
  rw [if_pos (show (p.length : Int) + 9 ≤ ((frame kind p ++ z).length : Int) by omega)]
  have hc := cks_range (body kind p)
  have e8 : tail4 (cks (body kind p)) = [cks (body kind p) / 16777216 % 256, cks (body kind p) / 65536 % 256, cks (body kind p) / 256 % 256, cks (body kind p) % 256] := rfl
  rw [e8, number4 _ _ _ _ _ (e8 ▸ tail_bytes _)]
  simp only [Option.bind_some]
  rw [if_pos (by omega), if_pos (by omega)]
  have e9 : (body kind p).drop 5 = p := rfl
  unfold slices_Clone_byte_byte.f XJoined.cloneF
  rw [e9, if_pos (by omega)]
  simp only [Option.bind_some]
  rw [if_pos ho, wrapS ((pos : Int) + ((p.length : Int) + 9)) (by omega) (by omega)]
  congr 1

theorem scan_short (k : Nat) (x0 : List Int) (out : List S43) (pos : Nat) (hp : pos ≤ x0.length) (h : x0.length < pos + 9) :
    journal_Scan.l0 (k + 1) x0 out (pos : Int) = some (out, (pos : Int)) := by
  rw [journal_Scan.l0, if_pos (by omega), if_pos (by omega), Int.toNat_natCast]
  simp only [Option.bind_some]
  rw [if_pos (by rw [List.length_drop]; omega)]

def stream : List S43 → List Int
  | [] => []
  | x :: xs => frame x.f0 x.f1 ++ stream xs
def Fine (fs : List S43) : Prop := ∀ x ∈ fs, GoodF x.f0 x.f1 ∧ Bytes x.f1

theorem stream_append (a b : List S43) : stream (a ++ b) = stream a ++ stream b := by
  induction a with
  | nil => rfl
  | cons x xs ih => simp only [List.cons_append, stream, ih, List.append_assoc]

def Stops (z : List Int) : Prop := ∀ (x0 : List Int) (out : List S43) (pos k : Nat), x0.length ≤ 140737488355328 → pos ≤ x0.length → x0.drop pos = z → 20 ≤ k → journal_Scan.l0 (k + 2) x0 out (pos : Int) = some (out, (pos : Int))

theorem stops_short {z : List Int} (h : z.length < 9) : Stops z := by
  intro x0 out pos k _ hp hd _
  refine scan_short (k + 1) x0 out pos hp ?_
  rw [← hd, List.length_drop] at h
  omega

theorem stops_torn {z z' : List Int} {kind : Int} {p : List Int} (g : GoodF kind p) (hz : z ++ z' = frame kind p) (hz' : z' ≠ []) : Stops z := by
  intro x0 out pos k hx hp hd hk
  have g1 := g.1
  have g2 := g.2
  have hl' : 0 < z'.length := List.length_pos_iff.2 hz'
  have hl : z.length + z'.length = p.length + 9 := by
    have := congrArg List.length hz
    rw [List.length_append, frame_length] at this
    exact this
  by_cases h9 : z.length < 9
  · exact stops_short h9 x0 out pos k hx hp hd hk
  have hzl : pos + z.length = x0.length := by
    have := congrArg List.length hd
    rw [List.length_drop] at this
    omega
  obtain ⟨h0, h1, h2, h3, h4, q, rfl⟩ : ∃ h0 h1 h2 h3 h4 q, z = h0 :: h1 :: h2 :: h3 :: h4 :: q := by
    match z, h9 with
    | h0 :: h1 :: h2 :: h3 :: h4 :: q, _ => exact ⟨h0, h1, h2, h3, h4, q, rfl⟩
    | [], h => simp at h
    | [_], h => simp at h
    | [_, _], h => simp at h
    | [_, _, _], h => simp at h
    | [_, _, _, _], h => simp at h
  have hf := hz
  unfold frame body head at hf
  simp only [List.cons_append, List.nil_append, List.cons.injEq] at hf
  obtain ⟨f0, f1, f2, f3, f4, _⟩ := hf
  subst f0; subst f1; subst f2; subst f3; subst f4
  clear hz
  have b2 : Bytes [(p.length : Int) / 256 % 256, (p.length : Int) % 256] := by intro x hx; simp at hx; omega
  have b4 : Bytes [(65535 - (p.length : Int)) / 256 % 256, (65535 - (p.length : Int)) % 256] := by intro x hx; simp at hx; omega
  obtain ⟨j, rfl⟩ : ∃ j, k = j + 5 := ⟨k - 5, by omega⟩
  generalize hY : ((p.length : Int) / 256 % 256 :: (p.length : Int) % 256 :: (65535 - (p.length : Int)) / 256 % 256 :: (65535 - (p.length : Int)) % 256 :: kind % 256 :: q) = Y at *
  have e2 : Y.take 2 = [(p.length : Int) / 256 % 256, (p.length : Int) % 256] := by rw [← hY]; rfl
  have e4 : (Y.take 4).drop 2 = [(65535 - (p.length : Int)) / 256 % 256, (65535 - (p.length : Int)) % 256] := by rw [← hY]; rfl
  rw [journal_Scan.l0, if_pos (by omega), if_pos (by omega), Int.toNat_natCast, hd]
  simp only [Option.bind_some]
  rw [if_neg (by omega), if_pos (by omega), e2, number2 _ _ _ b2]
  simp only [Option.bind_some]
  rw [if_pos (by omega), if_pos (by omega), if_pos (by omega), e4, number2 _ _ _ b4]
  simp only [Option.bind_some]
  have n1 : (p.length : Int) / 256 % 256 * 256 + (p.length : Int) % 256 = p.length := by omega
  have n2 : (65535 - (p.length : Int)) / 256 % 256 * 256 + (65535 - (p.length : Int)) % 256 = 65535 - p.length := by omega
  have k1 : wrap64 (kind % 256) = kind := by rw [wrapS _ (by omega) (by omega)]; omega
  have w1 : wrap64 (5 + (p.length : Int)) = 5 + (p.length : Int) := wrapS _ (by omega) (by omega)
  have e5 : rd Y 4 = kind % 256 := by rw [← hY]; rfl
  rw [n1, n2, e5, k1, w1]
  clear e5 k1 w1 n1 n2
  rw [wrapS ((p.length : Int) + (65535 - (p.length : Int))) (by omega) (by omega), if_pos (by omega), valid_ok]
  simp only [Option.bind_some, g1, decide_true, if_true]
  have hw : wrap64 (5 + (p.length : Int) + 4) = (p.length : Int) + 9 := by rw [wrapS _ (by omega) (by omega)]; omega
  have hf : ¬ (decide ((p.length : Int) > 60000) = true) := by rw [decide_eq_true_eq]; omega
  rw [journal_Scan.j1, if_neg hf, hw, if_pos (by omega)]

theorem scan_all (x0 : List Int) (hx : x0.length ≤ 140737488355328) (z : List Int) (hz : Stops z) : ∀ (fs : List S43) (pos : Nat) (out : List S43) (k : Nat), Fine fs → pos ≤ x0.length → x0.drop pos = stream fs ++ z → out.length + fs.length < 4398046511104 → 60020 ≤ k →
    journal_Scan.l0 (k + 2 * fs.length + 2) x0 out (pos : Int) = some (out ++ fs, ((pos + (stream fs).length : Nat) : Int)) := by
  intro fs
  induction fs with
  | nil =>
    intro pos out k _ hp hd _ hk
    rw [hz x0 out pos (k + 2 * ([] : List S43).length) hx hp hd (by omega)]
    simp [stream]
  | cons x xs ih =>
    intro pos out k hf hp hd ho hk
    have hx1 := hf x (List.mem_cons_self ..)
    have hx2 := hx1.1.2
    rw [stream, List.append_assoc] at hd
    have hl : pos + (x.f1.length + 9) ≤ x0.length := by
      have := congrArg List.length hd
      rw [List.length_drop, List.length_append, frame_length] at this
      omega
    rw [List.length_cons] at ho
    have e : k + 2 * (x :: xs).length + 2 = (k + 2 * xs.length + 2) + 2 := by rw [List.length_cons]; omega
    rw [e, scan_frame _ x0 out pos x.f0 x.f1 (stream xs ++ z) hx1.1 hx1.2 hd hx (by omega) (by omega)]
    have hd2 : x0.drop (pos + (x.f1.length + 9)) = stream xs ++ z := by
      rw [← List.drop_drop, hd, ← frame_length x.f0 x.f1, List.drop_left]
    rw [ih (pos + (x.f1.length + 9)) (out ++ [x]) k (fun y hy => hf y (List.mem_cons_of_mem _ hy)) hl hd2 (by rw [List.length_append]; simp; omega) hk]
    rw [List.append_assoc, stream, List.length_append, frame_length]
    congr 2
    omega

theorem scan_ok (x0 : List Int) (hx : x0.length ≤ 140737488355328) (fs : List S43) (z : List Int) (hz : Stops z) (hf : Fine fs) (hd : x0 = stream fs ++ z) (ho : fs.length < 4398046511104) (k : Nat) (hk : 60022 + 2 * fs.length ≤ k) :
    journal_Scan.f k x0 = some (fs, ((stream fs).length : Int)) := by
  unfold journal_Scan.f
  obtain ⟨j, rfl⟩ : ∃ j, k = j + 2 * fs.length + 2 := ⟨k - 2 * fs.length - 2, by omega⟩
  have := scan_all x0 hx z hz fs 0 [] j hf (by omega) (by rw [List.drop_zero]; exact hd) (by simpa using ho) (by omega)
  rw [List.nil_append, Nat.zero_add] at this
  exact this

theorem up {α : Type} {f : Nat → Option α} (hm : ∀ k, LeO (f k) (f (k + 1))) {r : α} {k0 : Nat} (h : f k0 = some r) : ∀ {k : Nat}, k0 ≤ k → f k = some r := by
  intro k hk
  induction hk with
  | refl => exact h
  | step _ ih => exact hm _ _ ih

theorem same_bytes (a : List Int) : customsref33_SameBytes.f a a = some true := by
  unfold customsref33_SameBytes.f
  rw [beq_self_eq_true]

def cutS (l : List (List Int)) : List (List Int) := (l.take 16).map fun p => p.take 300

theorem rdL1_ge (l : List (List Int)) (i : Nat) (h : i < l.length) : rd_L1 l (i : Int) = l[i] := by
  unfold rd_L1
  rw [Int.toNat_natCast, List.getD_eq_getElem?_getD, List.getElem?_eq_getElem h]
  rfl

theorem cut_loop (l : List (List Int)) : ∀ (m i : Nat) (out : List (List Int)) (k : Nat), i + m = min l.length 16 → 2 * m + 2 ≤ k → out.length = i →
    customslaw34_cut.l0 k l out (i : Int) = some (out ++ ((l.take 16).drop i).map fun p => p.take 300) := by
  intro m
  induction m with
  | zero =>
    intro i out k hi hk ho
    obtain ⟨k, rfl⟩ : ∃ j, k = j + 2 := ⟨k - 2, by omega⟩
    rw [List.drop_eq_nil_of_le (by rw [List.length_take]; omega), customslaw34_cut.l0]
    by_cases h : (i : Int) < (l.length : Int)
    · have hf : ¬ (decide ((i : Int) < 16) = true) := by rw [decide_eq_true_eq]; omega
      rw [if_pos h, customslaw34_cut.j1, if_neg hf]
      simp
    · rw [if_neg h, customslaw34_cut.j1, if_neg (by simp)]
      simp
  | succ m ih =>
    intro i out k hi hk ho
    obtain ⟨k, rfl⟩ : ∃ j, k = j + 2 := ⟨k - 2, by omega⟩
    have h : i < l.length := by omega
    have h2 : i < (l.take 16).length := by rw [List.length_take]; omega
    have hf : decide ((i : Int) < 16) = true := by rw [decide_eq_true_eq]; omega
    rw [customslaw34_cut.l0, if_pos (by omega), customslaw34_cut.j1, if_pos hf, if_pos (by omega), if_pos (by omega), rdL1_ge l i h, List.drop_eq_getElem_cons h2, List.getElem_take, List.map_cons]
    have hw : wrap64 ((i : Int) + 1) = ((i + 1 : Nat) : Int) := by rw [wrapS _ (by omega) (by omega)]; omega
    rw [hw]
    have key : customslaw34_cut.l0 k l (out ++ [l[i].take 300]) ((i + 1 : Nat) : Int) = some (out ++ l[i].take 300 :: ((l.take 16).drop (i + 1)).map fun p => p.take 300) := by
      rw [ih (i + 1) _ k (by omega) (by omega) (by simp [ho]), List.append_assoc]
      rfl
    by_cases h3 : (l[i].length : Int) > 300
    · rw [if_pos h3, if_pos (by omega), if_pos (by omega)]
      exact key
    · rw [if_neg h3, if_pos (by omega)]
      rw [List.take_of_length_le (show l[i].length ≤ 300 by omega)] at key ⊢
      exact key

theorem cut_ok (l : List (List Int)) (k : Nat) (hk : 40 ≤ k) : customslaw34_cut.f k l = some (cutS l) := by
  unfold customslaw34_cut.f
  have := cut_loop l (min l.length 16) 0 [] k (by omega) (by omega) rfl
  exact this

theorem cut_length (l : List (List Int)) : (cutS l).length ≤ 16 := by unfold cutS; rw [List.length_map, List.length_take]; omega
theorem cut_each (l : List (List Int)) (h : ∀ x ∈ l, Bytes x) : ∀ p ∈ cutS l, p.length ≤ 300 ∧ Bytes p := by
  intro p hp
  obtain ⟨q, hq, rfl⟩ := List.mem_map.1 hp
  refine ⟨by rw [List.length_take]; omega, (h q (List.mem_of_mem_take hq)).take 300⟩

theorem awake_60 : customslaw34_awake.f 60 = some true := by kernel_rfl
theorem awake_true (k : Nat) (hk : 60 ≤ k) : customslaw34_awake.f k = some true := up customslaw34_awake.mono awake_60 hk

theorem rdT_ge (l : List S43) (i : Nat) (h : i < l.length) : rd_T43 l (i : Int) = l[i] := by
  unfold rd_T43
  rw [Int.toNat_natCast, List.getD_eq_getElem?_getD, List.getElem?_eq_getElem h]
  rfl

theorem joined_ok (a b : List Int) (h : a.length + b.length ≤ 281474976710656) : disk_joined.f a b = some (a ++ b) := by
  unfold disk_joined.f XJoined.joinedF
  rw [if_pos h]

theorem read_ok (a b : List Int) (h : a.length + b.length ≤ 281474976710656) : disk_Read.f a b = some (a ++ b) := by
  unfold disk_Read.f
  rw [joined_ok a b h]
  rfl

theorem sync_ok (a b : List Int) (h : a.length + b.length ≤ 281474976710656) : disk_Sync.f a b = some (a ++ b, []) := by
  unfold disk_Sync.f
  rw [read_ok a b h]
  rfl

theorem put_ok (kind : Int) (s q p : List Int) (k : Nat) (g : GoodF kind p) (hb : Bytes p) (hs : s.length + q.length + (p.length + 9) ≤ 1000000) (hk : p.length + 6 ≤ k) : journal_Put.f k s q kind p = some (s, q ++ frame kind p, 0) := by
  have hl := frame_length kind p
  unfold journal_Put.f
  rw [encode_ok kind p k g hb hk]
  simp only [bindS, if_true]
  unfold disk_Write.f
  rw [wrapS ((s.length : Int) + (q.length : Int)) (by omega) (by omega), wrapS _ (by omega) (by omega), if_neg (by omega), joined_ok _ _ (by simp; omega), joined_ok _ _ (by omega)]
  simp only [bindS, List.append_nil]

theorem append_ok (s q p : List Int) (k : Nat) (hp : p.length ≤ 60000) (hb : Bytes p) (hs : s.length + q.length + (p.length + 9) ≤ 1000000) (hk : p.length + 6 ≤ k) : journal_Append.f k s q p = some (s ++ (q ++ frame 1 p), [], 0) := by
  have hl := frame_length 1 p
  unfold journal_Append.f
  rw [put_ok 1 s q p k ⟨Or.inl rfl, hp⟩ hb hs hk]
  simp only [bindS, if_true]
  rw [sync_ok _ _ (by rw [List.length_append]; omega)]
  simp only [bindS]

def foldO : List S43 → List Int × List (List Int) × Bool → List Int × List (List Int) × Bool
  | [], t => t
  | x :: xs, t => if x.f0 = 2 then foldO xs (x.f1, [], true) else foldO xs (t.1, t.2.1 ++ [x.f1], t.2.2)

theorem foldO_append : ∀ (a b : List S43) (t : List Int × List (List Int) × Bool), foldO (a ++ b) t = foldO b (foldO a t)
  | [], _, _ => rfl
  | x :: xs, b, t => by
    rw [List.cons_append, foldO, foldO]
    split
    · exact foldO_append xs b _
    · exact foldO_append xs b _

def recs (l : List (List Int)) : List S43 := l.map fun p => (⟨1, p⟩ : S43)

theorem recs_append (a b : List (List Int)) : recs (a ++ b) = recs a ++ recs b := List.map_append

theorem foldO_recs : ∀ (l : List (List Int)) (s : List Int) (r : List (List Int)) (f : Bool), foldO (recs l) (s, r, f) = (s, r ++ l, f)
  | [], s, r, f => by simp [recs, foldO]
  | p :: ps, s, r, f => by
    have := foldO_recs ps s (r ++ [p]) f
    unfold recs at this ⊢
    rw [List.map_cons, foldO, if_neg (by simp), this, List.append_assoc]
    rfl

theorem recs_fine (l : List (List Int)) (h : ∀ p ∈ l, p.length ≤ 300 ∧ Bytes p) : Fine (recs l) := by
  intro x hx
  obtain ⟨p, hp, rfl⟩ := List.mem_map.1 hx
  have := h p hp
  exact ⟨⟨Or.inl rfl, show p.length ≤ 60000 by omega⟩, this.2⟩

theorem recs_short (l : List (List Int)) (h : ∀ p ∈ l, p.length ≤ 300 ∧ Bytes p) : (stream (recs l)).length ≤ l.length * 309 := by
  induction l with
  | nil => simp [recs, stream]
  | cons p ps ih =>
    have h1 := (h p (List.mem_cons_self ..)).1
    have h2 := ih (fun q hq => h q (List.mem_cons_of_mem _ hq))
    unfold recs at h2 ⊢
    rw [List.map_cons, stream, List.length_append, frame_length, List.length_cons]
    show p.length + 9 + _ ≤ _
    omega

theorem open_loop (fs : List S43) (a b : List Int) (hf : fs.length ≤ 4398046511104) : ∀ (m i : Nat) (s : List Int) (r : List (List Int)) (f : Bool) (k : Nat), i + m = fs.length → m < k → r.length ≤ i →
    journal_Open.l0 k s r f fs (fs.length : Int) (i : Int) a b = some (a, b, (foldO (fs.drop i) (s, r, f)).1, (foldO (fs.drop i) (s, r, f)).2.2, (foldO (fs.drop i) (s, r, f)).2.1) := by
  intro m
  induction m with
  | zero =>
    intro i s r f k hi hk hr
    obtain ⟨k, rfl⟩ : ∃ j, k = j + 1 := ⟨k - 1, by omega⟩
    rw [journal_Open.l0, if_neg (by omega), List.drop_eq_nil_of_le (by omega)]
    rfl
  | succ m ih =>
    intro i s r f k hi hk hr
    obtain ⟨k, rfl⟩ : ∃ j, k = j + 1 := ⟨k - 1, by omega⟩
    have hlt : i < fs.length := by omega
    have hw : wrap64 ((i : Int) + 1) = ((i + 1 : Nat) : Int) := by rw [wrapS _ (by omega) (by omega)]; omega
    rw [journal_Open.l0, if_pos (by omega), if_pos (by omega), if_pos (by omega), rdT_ge fs i hlt, hw, List.drop_eq_getElem_cons hlt]
    by_cases h2 : fs[i].f0 = 2
    · rw [if_pos h2, ih (i + 1) _ _ _ k (by omega) (by omega) (by simp), foldO, if_pos h2]
    · rw [if_neg h2, if_pos (by omega), ih (i + 1) _ _ _ k (by omega) (by omega) (by simp; omega), foldO, if_neg h2]

theorem trunc_ok (s q : List Int) (n : Nat) (hn : n ≤ s.length + q.length) (hs : s.length + q.length ≤ 4194304) : disk_Truncate.f s q (n : Int) = some ((s ++ q).take n, [], 0) := by
  unfold disk_Truncate.f
  rw [if_neg (by omega), wrapS _ (by omega) (by omega), if_neg (by omega), read_ok _ _ (by omega)]
  simp only [bindS]
  rw [if_pos (by omega), if_pos (by rw [List.length_append]; omega), Int.toNat_natCast]

theorem open_ok (s q z : List Int) (fs : List S43) (hf : Fine fs) (hz : Stops z) (hd : s ++ q = stream fs ++ z) (hs : s.length + q.length ≤ 4194304) (hl : fs.length ≤ 100000) (k : Nat) (hk : 60022 + 2 * fs.length ≤ k) :
    journal_Open.f k s q = some (stream fs, [], (foldO fs ([], [], false)).1, (foldO fs ([], [], false)).2.2, (foldO fs ([], [], false)).2.1) := by
  have hlen := congrArg List.length hd
  rw [List.length_append, List.length_append] at hlen
  unfold journal_Open.f
  rw [read_ok _ _ (by omega)]
  simp only [bindS]
  rw [scan_ok (s ++ q) (by rw [List.length_append]; omega) fs z hz hf hd (by omega) k hk]
  simp only [bindS]
  rw [trunc_ok s q _ (by omega) hs]
  simp only [bindS]
  rw [hd, List.take_left]
  have := open_loop fs (stream fs) [] (by omega) fs.length 0 [] [] false k (by omega) (by omega) (by simp)
  rw [List.drop_zero] at this
  exact this

theorem same_recs (l : List (List Int)) (hl : l.length ≤ 4398046511104) : ∀ (m i : Nat) (k : Nat), i + m = l.length → m < k → customsref33_SameRecords.l0 k l l (i : Int) = some true := by
  intro m
  induction m with
  | zero =>
    intro i k hi hk
    obtain ⟨k, rfl⟩ : ∃ j, k = j + 1 := ⟨k - 1, by omega⟩
    rw [customsref33_SameRecords.l0, if_neg (by omega)]
  | succ m ih =>
    intro i k hi hk
    obtain ⟨k, rfl⟩ : ∃ j, k = j + 1 := ⟨k - 1, by omega⟩
    have hw : wrap64 ((i : Int) + 1) = ((i + 1 : Nat) : Int) := by rw [wrapS _ (by omega) (by omega)]; omega
    rw [customsref33_SameRecords.l0, if_pos (by omega), if_pos (by omega), if_pos (by omega), same_bytes, hw, ih (i + 1) k (by omega) (by omega)]
    simp only [bindS, if_true]

theorem same_recs_ok (l : List (List Int)) (hl : l.length ≤ 4398046511104) (k : Nat) (hk : l.length < k) : customsref33_SameRecords.f k l l = some true := by
  unfold customsref33_SameRecords.f
  rw [if_pos rfl]
  exact same_recs l hl l.length 0 k (by omega) hk

theorem rcks_loop (l : List Int) (hb : Bytes l) (hl : l.length ≤ 140737488355328) : ∀ (m i : Nat) (a b : Int) (k : Nat), i + m = l.length → m < k → 0 ≤ a → a < 65521 → 0 ≤ b → b < 65521 →
    customsref06_Checksum.l0 k l a b (i : Int) = some ((cksP (l.drop i) a b).2 * 65536 + (cksP (l.drop i) a b).1) := by
  intro m
  induction m with
  | zero =>
    intro i a b k hi hk a0 a1 b0 b1
    obtain ⟨k, rfl⟩ : ∃ j, k = j + 1 := ⟨k - 1, by omega⟩
    rw [customsref06_Checksum.l0, if_neg (by omega), List.drop_eq_nil_of_le (by omega)]
    unfold cksP
    rw [wrapS (b * 65536) (by omega) (by omega), wrapS _ (by omega) (by omega)]
  | succ m ih =>
    intro i a b k hi hk a0 a1 b0 b1
    obtain ⟨k, rfl⟩ : ∃ j, k = j + 1 := ⟨k - 1, by omega⟩
    have hlt : i < l.length := by omega
    have hx := hb l[i] (List.getElem_mem hlt)
    rw [customsref06_Checksum.l0, if_pos (by omega), if_pos (by omega), rd_ge l i hlt, wrapS l[i] (by omega) (by omega), wrapS (a + l[i]) (by omega) (by omega),
      Int.tmod_eq_emod_of_nonneg (by omega), wrapS (b + (a + l[i]) % 65521) (by omega) (by omega), Int.tmod_eq_emod_of_nonneg (by omega), wrapS ((i : Int) + 1) (by omega) (by omega)]
    rw [List.drop_eq_getElem_cons hlt]
    exact ih (i + 1) _ _ k (by omega) (by omega) (by omega) (by omega) (by omega) (by omega)

theorem rcks_ok (l : List Int) (hb : Bytes l) (hl : l.length ≤ 140737488355328) (k : Nat) (hk : l.length < k) : customsref06_Checksum.f k l = some (cks l) := by
  unfold customsref06_Checksum.f
  exact rcks_loop l hb hl l.length 0 1 0 k (by omega) hk (by omega) (by omega) (by omega) (by omega)

theorem rtail (c : Int) (h0 : 0 ≤ c) (h1 : c < 4294967296) : [(wrap64 (Int.tdiv c 16777216)) % 256, (Int.tmod (wrap64 (Int.tdiv c 65536)) 256) % 256, (Int.tmod (wrap64 (Int.tdiv c 256)) 256) % 256, (Int.tmod c 256) % 256] = tail4 c := by
  rw [Int.tdiv_eq_ediv_of_nonneg h0, Int.tdiv_eq_ediv_of_nonneg h0, Int.tdiv_eq_ediv_of_nonneg h0, wrapS (c / 16777216) (by omega) (by omega), wrapS (c / 65536) (by omega) (by omega), wrapS (c / 256) (by omega) (by omega),
    Int.tmod_eq_emod_of_nonneg (by omega), Int.tmod_eq_emod_of_nonneg (by omega), Int.tmod_eq_emod_of_nonneg (by omega), Int.emod_emod_of_dvd _ (by omega), Int.emod_emod_of_dvd _ (by omega), Int.emod_emod_of_dvd _ (by omega)]
  rfl

theorem rhead (n : Nat) (kind : Int) (h : n ≤ 60000) : [(wrap64 ((n : Int) / 256)) % 256, (n : Int) % 256, (wrap64 (255 - (wrap64 ((n : Int) / 256)))) % 256, 255 - ((n : Int) % 256), kind % 256] = head n kind := by
  unfold head
  rw [wrapS ((n : Int) / 256) (by omega) (by omega), wrapS (255 - (n : Int) / 256) (by omega) (by omega)]
  have e1 : (255 - (n : Int) / 256) % 256 = (65535 - (n : Int)) / 256 % 256 := by omega
  have e2 : 255 - (n : Int) % 256 = (65535 - (n : Int)) % 256 := by omega
  rw [e1, e2]

theorem rencode_ok (kind : Int) (p : List Int) (k : Nat) (g : GoodF kind p) (hb : Bytes p) (hk : p.length + 7 ≤ k) : customsref33_Encode.f k kind p = some (frame kind p, 0) := by
  have g1 := g.1
  have g2 := g.2
  obtain ⟨k, rfl⟩ : ∃ j, k = j + 1 := ⟨k - 1, by omega⟩
  have key : customsref33_Encode.j0 (k + 1) false kind p = some (frame kind p, 0) := by
    rw [customsref33_Encode.j0, if_neg (by simp), if_neg (by omega), rhead _ _ g2]
    simp only [bindS]
    have e : head p.length kind ++ p = body kind p := rfl
    rw [if_pos (by simp [head]; omega), e]
    rw [rcks_ok _ (body_bytes hb) (by rw [body_length]; omega) k (by rw [body_length]; omega)]
    simp only [bindS]
    have hc := cks_range (body kind p)
    rw [rtail _ hc.1 hc.2, if_pos (by rw [body_length]; simp [tail4]; omega)]
    rfl
  unfold customsref33_Encode.f
  by_cases h : kind = 1
  · rw [if_pos h]; exact key
  · have h2 : (kind != 2) = false := by
      have : kind = 2 := by omega
      simp [this]
    rw [if_neg h, h2]; exact key

theorem rencode_kind (kind : Int) (p : List Int) (k : Nat) (h : ¬ (kind = 1 ∨ kind = 2)) : customsref33_Encode.f (k + 1) kind p = some ([], 2) := by
  unfold customsref33_Encode.f
  have h2 : (kind != 2) = true := by rw [bne_iff_ne]; omega
  rw [if_neg (by omega), h2, customsref33_Encode.j0, if_pos rfl]

theorem rencode_long (kind : Int) (p : List Int) (k : Nat) (h : kind = 1 ∨ kind = 2) (h2 : 60000 < p.length) : customsref33_Encode.f (k + 1) kind p = some ([], 8) := by
  have key : customsref33_Encode.j0 (k + 1) false kind p = some ([], 8) := by
    rw [customsref33_Encode.j0, if_neg (by simp), if_pos (by omega)]
  unfold customsref33_Encode.f
  by_cases h : kind = 1
  · rw [if_pos h]; exact key
  · have h2 : (kind != 2) = false := by
      have : kind = 2 := by omega
      simp [this]
    rw [if_neg h, h2]; exact key

theorem encodes (kind : Int) (p : List Int) (hb : Bytes p) (k : Nat) (hk : 60100 ≤ k) : ∃ x e, journal_Encode.f k kind p = some (x, e) ∧ customsref33_Encode.f k kind p = some (x, e) ∧ (e = 0 → GoodF kind p ∧ x = frame kind p) := by
  obtain ⟨k, rfl⟩ : ∃ j, k = j + 1 := ⟨k - 1, by omega⟩
  by_cases h : kind = 1 ∨ kind = 2
  · by_cases h2 : 60000 < p.length
    · exact ⟨_, _, encode_long kind p _ h h2, rencode_long kind p _ h h2, fun e => by cases e⟩
    · have g : GoodF kind p := ⟨h, by omega⟩
      exact ⟨_, _, encode_ok kind p _ g hb (by omega), rencode_ok kind p _ g hb (by omega), fun _ => ⟨g, rfl⟩⟩
  · exact ⟨_, _, encode_kind kind p _ h, rencode_kind kind p _ h, fun e => by cases e⟩

def NoFrame (z : List Int) : Prop := ∀ (kind : Int) (p z' : List Int), GoodF kind p → z ≠ frame kind p ++ z'

theorem parse : ∀ (n : Nat) (x : List Int), x.length ≤ n → Bytes x → ∃ fs z, x = stream fs ++ z ∧ Fine fs ∧ NoFrame z ∧ 9 * fs.length ≤ x.length := by
  intro n
  induction n with
  | zero =>
    intro x hx hb
    refine ⟨[], x, rfl, (fun _ h => by cases h), ?_, by simp⟩
    intro kind p z' _ h
    have := congrArg List.length h
    rw [List.length_append, frame_length] at this
    omega
  | succ n ih =>
    intro x hx hb
    by_cases h : NoFrame x
    · exact ⟨[], x, rfl, (fun _ h => by cases h), h, by simp⟩
    · unfold NoFrame at h
      simp only [Classical.not_forall, ne_eq, Classical.not_not] at h
      obtain ⟨kind, p, z', g, hd⟩ := h
      have hl := congrArg List.length hd
      rw [List.length_append, frame_length] at hl
      rw [hd] at hb
      obtain ⟨fs, z, h1, h2, h3, h4⟩ := ih z' (by omega) hb.right
      have hp : Bytes p := hb.left.left.right
      refine ⟨⟨kind, p⟩ :: fs, z, ?_, ?_, h3, ?_⟩
      · rw [hd, h1, stream, List.append_assoc]
      · intro y hy
        rcases List.mem_cons.1 hy with e | e
        · subst e; exact ⟨g, hp⟩
        · exact h2 y e
      · rw [List.length_cons]; omega

theorem five (z : List Int) (h : ¬ z.length < 9) : ∃ h0 h1 h2 h3 h4 q, z = h0 :: h1 :: h2 :: h3 :: h4 :: q := by
  match z, h with
  | h0 :: h1 :: h2 :: h3 :: h4 :: q, _ => exact ⟨h0, h1, h2, h3, h4, q, rfl⟩
  | [], h => simp at h
  | [_], h => simp at h
  | [_, _], h => simp at h
  | [_, _, _], h => simp at h
  | [_, _, _, _], h => simp at h

/-- Where the head's numbers fit and the sum fits, a frame begins. -/
theorem is_frame (h0 h1 h2 h3 h4 t0 t1 t2 t3 : Int) (p r : List Int) (hb : Bytes (h0 :: h1 :: h2 :: h3 :: h4 :: (p ++ t0 :: t1 :: t2 :: t3 :: r))) (hn : h0 * 256 + h1 = p.length) (hs : h0 * 256 + h1 + (h2 * 256 + h3) = 65535)
    (hc : cks (h0 :: h1 :: h2 :: h3 :: h4 :: p) = t0 * 16777216 + t1 * 65536 + t2 * 256 + t3) :
    h0 :: h1 :: h2 :: h3 :: h4 :: (p ++ t0 :: t1 :: t2 :: t3 :: r) = frame h4 p ++ r := by
  have b0 := hb h0 (by simp)
  have b1 := hb h1 (by simp)
  have b2 := hb h2 (by simp)
  have b3 := hb h3 (by simp)
  have b4 := hb h4 (by simp)
  have c0 := hb t0 (by simp)
  have c1 := hb t1 (by simp)
  have c2 := hb t2 (by simp)
  have c3 := hb t3 (by simp)
  have e : body h4 p = h0 :: h1 :: h2 :: h3 :: h4 :: p := by
    unfold body head
    have e0 : (p.length : Int) / 256 % 256 = h0 := by omega
    have e1 : (p.length : Int) % 256 = h1 := by omega
    have e2 : (65535 - (p.length : Int)) / 256 % 256 = h2 := by omega
    have e3 : (65535 - (p.length : Int)) % 256 = h3 := by omega
    have e4 : h4 % 256 = h4 := by omega
    rw [e0, e1, e2, e3, e4]
    rfl
  unfold frame
  rw [e, hc]
  unfold tail4
  have f0 : (t0 * 16777216 + t1 * 65536 + t2 * 256 + t3) / 16777216 % 256 = t0 := by omega
  have f1 : (t0 * 16777216 + t1 * 65536 + t2 * 256 + t3) / 65536 % 256 = t1 := by omega
  have f2 : (t0 * 16777216 + t1 * 65536 + t2 * 256 + t3) / 256 % 256 = t2 := by omega
  have f3 : (t0 * 16777216 + t1 * 65536 + t2 * 256 + t3) % 256 = t3 := by omega
  rw [f0, f1, f2, f3]
  simp

theorem four (q : List Int) (n : Nat) (h : n + 4 ≤ q.length) : ∃ p t0 t1 t2 t3 r, q = p ++ t0 :: t1 :: t2 :: t3 :: r ∧ p.length = n := by
  have hl : (q.drop n).length ≥ 4 := by rw [List.length_drop]; omega
  have hp : (q.take n).length = n := by rw [List.length_take]; omega
  have hq := List.take_append_drop n q
  match hd : q.drop n, hl with
  | t0 :: t1 :: t2 :: t3 :: r, _ => exact ⟨q.take n, t0, t1, t2, t3, r, by rw [← hd]; exact hq.symm, hp⟩
  | [], h => simp at h
  | [_], h => simp at h
  | [_, _], h => simp at h
  | [_, _, _], h => simp at h

theorem j1_true (k : Nat) (x0 : List Int) (x4 : List S43) (x5 : Int) (x6 : List Int) (x8 x9 : Int) : journal_Scan.j1 (k + 1) x0 x4 x5 x6 x8 x9 true = some (x4, x5) := by
  rw [journal_Scan.j1, if_pos rfl]

theorem stops_noframe {z : List Int} (hb : Bytes z) (hz : NoFrame z) (x0 : List Int) (out : List S43) (pos k : Nat) (hx : x0.length ≤ 140737488355328) (hp : pos ≤ x0.length) (hd : x0.drop pos = z) (hk : 60100 ≤ k) : journal_Scan.l0 (k + 2) x0 out (pos : Int) = some (out, (pos : Int)) := by
  by_cases h9 : z.length < 9
  · exact stops_short h9 x0 out pos k hx hp hd (by omega)
  have hzl : pos + z.length = x0.length := by
    have := congrArg List.length hd
    rw [List.length_drop] at this
    omega
  obtain ⟨h0, h1, h2, h3, h4, q, hY⟩ := five z h9
  have b0 := hb h0 (by rw [hY]; simp)
  have b1 := hb h1 (by rw [hY]; simp)
  have b2 := hb h2 (by rw [hY]; simp)
  have b3 := hb h3 (by rw [hY]; simp)
  have b4 := hb h4 (by rw [hY]; simp)
  have c2 : Bytes [h0, h1] := by intro x hx; simp at hx; omega
  have c4 : Bytes [h2, h3] := by intro x hx; simp at hx; omega
  obtain ⟨j, rfl⟩ : ∃ j, k = j + 5 := ⟨k - 5, by omega⟩
  have e2 : z.take 2 = [h0, h1] := by rw [hY]; rfl
  have e4 : (z.take 4).drop 2 = [h2, h3] := by rw [hY]; rfl
  have ql : z.length = q.length + 5 := by rw [hY]; simp
  rw [journal_Scan.l0, if_pos (by omega), if_pos (by omega), Int.toNat_natCast, hd]
  simp only [bindS]
  rw [if_neg (by omega), if_pos (by omega), e2, number2 _ _ _ c2]
  simp only [bindS]
  rw [if_pos (by omega), if_pos (by omega), if_pos (by omega), e4, number2 _ _ _ c4]
  simp only [bindS]
  have k1 : wrap64 h4 = h4 := wrapS _ (by omega) (by omega)
  have w1 : wrap64 (5 + (h0 * 256 + h1)) = 5 + (h0 * 256 + h1) := wrapS _ (by omega) (by omega)
  have e5 : rd z 4 = h4 := by rw [hY]; rfl
  rw [e5, k1, w1]
  clear e5 k1 w1
  rw [wrapS (h0 * 256 + h1 + (h2 * 256 + h3)) (by omega) (by omega)]
  by_cases hs : h0 * 256 + h1 + (h2 * 256 + h3) = 65535
  · rw [if_pos hs, valid_ok]
    simp only [bindS]
    by_cases hv : h4 = 1 ∨ h4 = 2
    · rw [if_pos (decide_eq_true hv)]
      by_cases hn : h0 * 256 + h1 > 60000
      · rw [decide_eq_true hn, j1_true]
      · rw [decide_eq_false hn, journal_Scan.j1, if_neg (by simp)]
        have hw : wrap64 (5 + (h0 * 256 + h1) + 4) = h0 * 256 + h1 + 9 := by rw [wrapS _ (by omega) (by omega)]; omega
        rw [hw]
        clear hw
        by_cases hlen : (z.length : Int) < h0 * 256 + h1 + 9
        · rw [if_pos hlen]
        · rw [if_neg hlen, if_pos (by omega), if_pos (by omega)]
          obtain ⟨p, t0, t1, t2, t3, r, hq, hpl⟩ := four q (h0 * 256 + h1).toNat (by omega)
          have hpl2 : h0 * 256 + h1 = (p.length : Int) := by omega
          have t1' : (5 + (h0 * 256 + h1)).toNat = (h0 :: h1 :: h2 :: h3 :: h4 :: p).length := by simp only [List.length_cons]; omega
          have t2' : (h0 * 256 + h1 + 9).toNat = ((h0 :: h1 :: h2 :: h3 :: h4 :: p) ++ [t0, t1, t2, t3]).length := by simp only [List.length_append, List.length_cons, List.length_nil]; omega
          have hz2 : z = (h0 :: h1 :: h2 :: h3 :: h4 :: p) ++ [t0, t1, t2, t3] ++ r := by rw [hY, hq]; simp
          have e6 : z.take (5 + (h0 * 256 + h1)).toNat = h0 :: h1 :: h2 :: h3 :: h4 :: p := by rw [t1', hz2, List.append_assoc, List.take_left]
          have e7 : (z.take (h0 * 256 + h1 + 9).toNat).drop (5 + (h0 * 256 + h1)).toNat = [t0, t1, t2, t3] := by rw [t1', t2', hz2, List.take_left, List.drop_left]
          have bz : Bytes (h0 :: h1 :: h2 :: h3 :: h4 :: p) := by rw [hz2] at hb; exact hb.left.left
          have bt : Bytes [t0, t1, t2, t3] := by rw [hz2] at hb; exact hb.left.right
          rw [e6, e7, cks_ok _ bz (by simp only [List.length_cons]; omega) _ (by simp only [List.length_cons]; omega)]
          simp only [bindS]
          rw [if_pos (by omega), if_pos (by omega), number4 _ _ _ _ _ bt]
          simp only [bindS]
          by_cases hc : cks (h0 :: h1 :: h2 :: h3 :: h4 :: p) = t0 * 16777216 + t1 * 65536 + t2 * 256 + t3
          · exfalso
            have hz3 : z = h0 :: h1 :: h2 :: h3 :: h4 :: (p ++ t0 :: t1 :: t2 :: t3 :: r) := by rw [hY, hq]
            refine hz h4 p r ⟨hv, by omega⟩ ?_
            rw [hz3]
            exact is_frame h0 h1 h2 h3 h4 t0 t1 t2 t3 p r (hz3 ▸ hb) hpl2 hs hc
          · rw [if_neg hc]
    · have hv2 : decide (h4 = 1 ∨ h4 = 2) = false := decide_eq_false hv
      rw [hv2, if_neg (by simp)]
      exact j1_true _ _ _ _ _ _ _
  · have hs2 : (h0 * 256 + h1 + (h2 * 256 + h3) != 65535) = true := by rw [bne_iff_ne]; exact hs
    rw [if_neg hs, hs2, j1_true]

theorem rd_drop (l : List Int) (pos j : Nat) : rd l ((pos + j : Nat) : Int) = rd (l.drop pos) (j : Int) := by
  unfold rd
  rw [Int.toNat_natCast, Int.toNat_natCast, List.getD_eq_getElem?_getD, List.getD_eq_getElem?_getD, List.getElem?_drop]

theorem cut_drop (l : List Int) (pos a b : Nat) : (l.take (pos + a + b)).drop (pos + a) = ((l.drop pos).take (a + b)).drop a := by
  rw [List.drop_take, List.drop_take, List.drop_drop]
  congr 1
  omega

theorem cut_drop0 (l : List Int) (pos b : Nat) : (l.take (pos + b)).drop pos = (l.drop pos).take b := by
  rw [List.drop_take]
  congr 1
  omega

theorem wrapt (pos : Nat) (h0 h1 : Int) (b0 : 0 ≤ h0 ∧ h0 ≤ 255) (b1 : 0 ≤ h1 ∧ h1 ≤ 255) (h : pos ≤ 140737488355328) : wrap64 ((pos : Int) + 1) = ((pos + 1 : Nat) : Int) ∧ wrap64 ((pos : Int) + 9) = (pos : Int) + 9 ∧ wrap64 ((wrap64 ((wrap64 h0) * 256)) + (wrap64 h1)) = h0 * 256 + h1 ∧ wrap64 ((pos : Int) + 9 + (h0 * 256 + h1)) = (pos : Int) + 9 + (h0 * 256 + h1) := by
  refine ⟨?_, wrapS _ (by omega) (by omega), ?_, wrapS _ (by omega) (by omega)⟩
  · rw [wrapS _ (by omega) (by omega)]; omega
  · rw [wrapS h0 (by omega) (by omega), wrapS (h0 * 256) (by omega) (by omega), wrapS h1 (by omega) (by omega), wrapS _ (by omega) (by omega)]

/-- The reference's test at a place where at least nine bytes stand. -/
theorem rscan_step (x0 : List Int) (out : List S43) (pos k : Nat) (h0 h1 h2 h3 h4 : Int) (q : List Int) (hb : Bytes (h0 :: h1 :: h2 :: h3 :: h4 :: q)) (hx : x0.length ≤ 140737488355328) (hd : x0.drop pos = h0 :: h1 :: h2 :: h3 :: h4 :: q) (hl : 4 ≤ q.length) :
    customsref33_Scan.l0 (k + 1) x0 out (pos : Int) = customsref33_Scan.j1 k x0 out (pos : Int) (h0 * 256 + h1) (decide (60000 < h0 * 256 + h1 ∨ (q.length : Int) < h0 * 256 + h1 + 4)) := by
  have b0 := hb h0 (by simp)
  have b1 := hb h1 (by simp)
  have hzl : pos + (q.length + 5) = x0.length := by
    have := congrArg List.length hd
    simp only [List.length_drop, List.length_cons] at this
    omega
  obtain ⟨w1, w9, wn, wm⟩ := wrapt pos h0 h1 b0 b1 (by omega)
  have r0 : rd x0 (pos : Int) = h0 := by
    have := rd_drop x0 pos 0
    rw [hd] at this
    exact this
  have r1 : rd x0 ((pos + 1 : Nat) : Int) = h1 := by
    have := rd_drop x0 pos 1
    rw [hd] at this
    exact this
  rw [customsref33_Scan.l0, w1, w9, r0, r1, wn, wm]
  clear r0 r1 w1 w9 wn wm
  rw [if_pos (by omega), if_pos (by omega), if_pos (by omega), if_pos (by omega), if_pos (by omega)]
  by_cases hn : h0 * 256 + h1 > 60000
  · rw [if_pos hn, decide_eq_true (Or.inl hn)]
  · rw [if_neg hn]
    congr 1
    refine decide_eq_decide.2 ?_
    omega

theorem rj1_true (k : Nat) (x0 : List Int) (x4 : List S43) (x5 x6 : Int) : customsref33_Scan.j1 (k + 1) x0 x4 x5 x6 true = some (x4, x5) := by
  rw [customsref33_Scan.j1, if_pos rfl]

theorem wraps (pos n : Nat) (h : pos + n + 9 ≤ 140737488355328) : wrap64 ((pos : Int) + 4) = ((pos + 4 : Nat) : Int) ∧ wrap64 ((pos : Int) + 5) = ((pos + 5 : Nat) : Int) ∧ wrap64 (((pos + 5 : Nat) : Int) + (n : Int)) = ((pos + 5 + n : Nat) : Int) ∧ wrap64 ((pos : Int) + 9) = ((pos + 9 : Nat) : Int) ∧ wrap64 (((pos + 9 : Nat) : Int) + (n : Int)) = ((pos + (n + 9) : Nat) : Int) := by
  refine ⟨?_, ?_, ?_, ?_, ?_⟩ <;> (rw [wrapS _ (by omega) (by omega)]; omega)

theorem rscan_rest (x0 : List Int) (out : List S43) (pos k : Nat) (h0 h1 h2 h3 h4 t0 t1 t2 t3 : Int) (p r : List Int) (hb : Bytes (h0 :: h1 :: h2 :: h3 :: h4 :: (p ++ t0 :: t1 :: t2 :: t3 :: r))) (hx : x0.length ≤ 140737488355328) (hd : x0.drop pos = h0 :: h1 :: h2 :: h3 :: h4 :: (p ++ t0 :: t1 :: t2 :: t3 :: r))
    (hn : h0 * 256 + h1 = p.length) (hn2 : p.length ≤ 60000) (ho : out.length < 4398046511104) (hk : 60100 ≤ k) :
    (GoodF h4 p → frame h4 p = h0 :: h1 :: h2 :: h3 :: h4 :: (p ++ [t0, t1, t2, t3]) → customsref33_Scan.j1 (k + 1) x0 out (pos : Int) (h0 * 256 + h1) false = customsref33_Scan.l0 k x0 (out ++ [(⟨h4, p⟩ : S43)]) ((pos + (p.length + 9) : Nat) : Int)) ∧
    (¬ (GoodF h4 p ∧ frame h4 p = h0 :: h1 :: h2 :: h3 :: h4 :: (p ++ [t0, t1, t2, t3])) → customsref33_Scan.j1 (k + 1) x0 out (pos : Int) (h0 * 256 + h1) false = some (out, (pos : Int))) := by
  have hzl : pos + (p.length + 9 + r.length) = x0.length := by
    have := congrArg List.length hd
    simp only [List.length_drop, List.length_cons, List.length_append] at this
    omega
  have b4 := hb h4 (by simp)
  have bp : Bytes p := fun x hx => hb x (by simp [hx])
  have c1 : (x0.take (pos + 5 + p.length)).drop (pos + 5) = p := by
    rw [cut_drop, hd]
    have : (h0 :: h1 :: h2 :: h3 :: h4 :: (p ++ t0 :: t1 :: t2 :: t3 :: r)).take (5 + p.length) = h0 :: h1 :: h2 :: h3 :: h4 :: p := by
      have e : 5 + p.length = (h0 :: h1 :: h2 :: h3 :: h4 :: p).length := by simp only [List.length_cons]; omega
      have e2 : h0 :: h1 :: h2 :: h3 :: h4 :: (p ++ t0 :: t1 :: t2 :: t3 :: r) = (h0 :: h1 :: h2 :: h3 :: h4 :: p) ++ (t0 :: t1 :: t2 :: t3 :: r) := rfl
      rw [e, e2, List.take_left]
    rw [this]
    rfl
  have c2 : (x0.take (pos + (p.length + 9))).drop pos = h0 :: h1 :: h2 :: h3 :: h4 :: (p ++ [t0, t1, t2, t3]) := by
    rw [cut_drop0, hd]
    have e : p.length + 9 = (h0 :: h1 :: h2 :: h3 :: h4 :: (p ++ [t0, t1, t2, t3])).length := by simp only [List.length_cons, List.length_append, List.length_nil]
    have e2 : h0 :: h1 :: h2 :: h3 :: h4 :: (p ++ t0 :: t1 :: t2 :: t3 :: r) = (h0 :: h1 :: h2 :: h3 :: h4 :: (p ++ [t0, t1, t2, t3])) ++ r := by simp
    rw [e, e2, List.take_left]
  have bw : Bytes (h0 :: h1 :: h2 :: h3 :: h4 :: (p ++ [t0, t1, t2, t3])) := by
    have e2 : h0 :: h1 :: h2 :: h3 :: h4 :: (p ++ t0 :: t1 :: t2 :: t3 :: r) = (h0 :: h1 :: h2 :: h3 :: h4 :: (p ++ [t0, t1, t2, t3])) ++ r := by simp
    rw [e2] at hb
    exact hb.left
  have main : customsref33_Scan.j1 (k + 1) x0 out (pos : Int) (h0 * 256 + h1) false = (customsref33_Encode.f k h4 p).bind fun bt => if bt.2 = 0 then ((customsref33_SameBytes.f bt.1 (h0 :: h1 :: h2 :: h3 :: h4 :: (p ++ [t0, t1, t2, t3]))).bind fun t => if t = true then customsref33_Scan.l0 k x0 (out ++ [(⟨h4, p⟩ : S43)]) ((pos + (p.length + 9) : Nat) : Int) else some (out, (pos : Int))) else some (out, (pos : Int)) := by
    have hB : pos + p.length + 9 ≤ 140737488355328 := by omega
    have wh : wrap64 h4 = h4 := wrapS _ (by omega) (by omega)
    have hW := wraps pos p.length hB
    have r4 : rd x0 ((pos + 4 : Nat) : Int) = h4 := by
      have := rd_drop x0 pos 4
      rw [hd] at this
      exact this
    obtain ⟨w4, w5, w5n, w9, w9n⟩ := hW
    rw [customsref33_Scan.j1, if_neg (by simp), hn, w4, w5, w5n, w9, w9n, r4, wh, Int.toNat_natCast, Int.toNat_natCast, Int.toNat_natCast, Int.toNat_natCast, c1, c2]
    clear r4 w4 w5 w5n w9 w9n wh
    rw [if_pos (by omega), if_pos (by omega)]
    simp only [bindS, List.nil_append, List.length_nil, Nat.zero_add]
    rw [if_pos (by omega), if_pos (by omega), if_pos (by omega), if_pos (by omega)]
    have p1 := eq_true (show 0 ≤ (pos : Int) by omega)
    have p2 := eq_true (show (pos : Int) ≤ ((pos + (p.length + 9) : Nat) : Int) by omega)
    have p3 := eq_true (show ((pos + (p.length + 9) : Nat) : Int) ≤ (x0.length : Int) by omega)
    have p4 := eq_true ho
    simp only [p1, p2, p3, p4, if_true]
  obtain ⟨x, e, _, he2, he3⟩ := encodes h4 p bp k hk
  rw [main, he2]
  simp only [bindS]
  constructor
  · intro g hf
    have hj := rencode_ok h4 p k g bp (by omega)
    rw [he2] at hj
    have hj2 := Option.some.inj hj
    rw [Prod.mk.injEq] at hj2
    rw [if_pos hj2.2, hj2.1, hf, same_bytes]
    simp only [bindS, if_true]
  · intro hno
    by_cases h : e = 0
    · obtain ⟨g, hx2⟩ := he3 h
      have hne : frame h4 p ≠ h0 :: h1 :: h2 :: h3 :: h4 :: (p ++ [t0, t1, t2, t3]) := fun hf => hno ⟨g, hf⟩
      rw [if_pos h, hx2]
      have : customsref33_SameBytes.f (frame h4 p) (h0 :: h1 :: h2 :: h3 :: h4 :: (p ++ [t0, t1, t2, t3])) = some false := by
        unfold customsref33_SameBytes.f
        congr 1
        rw [beq_eq_false_iff_ne]
        exact fun hs => hne (strOf_inj (frame_bytes bp) bw hs)
      rw [this]
      simp only [bindS]
      rw [if_neg (by simp)]
    · rw [if_neg h]

theorem rscan_short (k : Nat) (x0 : List Int) (out : List S43) (pos : Nat) (hx : x0.length ≤ 140737488355328) (hp : pos ≤ x0.length) (h : x0.length < pos + 9) : customsref33_Scan.l0 (k + 1) x0 out (pos : Int) = some (out, (pos : Int)) := by
  rw [customsref33_Scan.l0, wrapS ((pos : Int) + 9) (by omega) (by omega), if_neg (by omega)]

theorem rscan_frame (k : Nat) (x0 : List Int) (out : List S43) (pos : Nat) (kind : Int) (p z : List Int) (g : GoodF kind p) (hb : Bytes p) (bz : Bytes z) (hd : x0.drop pos = frame kind p ++ z) (hx : x0.length ≤ 140737488355328) (ho : out.length < 4398046511104) (hk : 60100 ≤ k) :
    customsref33_Scan.l0 (k + 2) x0 out (pos : Int) = customsref33_Scan.l0 k x0 (out ++ [(⟨kind, p⟩ : S43)]) ((pos + (p.length + 9) : Nat) : Int) := by
  have g1 := g.1
  have g2 := g.2
  have bb : Bytes (frame kind p ++ z) := (frame_bytes hb).append bz
  obtain ⟨t0, t1, t2, t3, ht⟩ : ∃ t0 t1 t2 t3, tail4 (cks (body kind p)) = [t0, t1, t2, t3] := ⟨_, _, _, _, rfl⟩
  obtain ⟨h0, h1, h2, h3, hh, hn⟩ : ∃ h0 h1 h2 h3, head p.length kind = [h0, h1, h2, h3, kind] ∧ h0 * 256 + h1 = (p.length : Int) := by
    refine ⟨(p.length : Int) / 256 % 256, (p.length : Int) % 256, (65535 - (p.length : Int)) / 256 % 256, (65535 - (p.length : Int)) % 256, ?_, by omega⟩
    have : kind % 256 = kind := by omega
    unfold head
    rw [this]
  have hf : frame kind p = h0 :: h1 :: h2 :: h3 :: kind :: (p ++ [t0, t1, t2, t3]) := by
    unfold frame
    rw [ht]
    unfold body
    rw [hh]
    rfl
  have hfz : frame kind p ++ z = h0 :: h1 :: h2 :: h3 :: kind :: (p ++ t0 :: t1 :: t2 :: t3 :: z) := by rw [hf]; simp
  rw [hfz] at hd bb
  have ql : (p ++ t0 :: t1 :: t2 :: t3 :: z).length = p.length + 4 + z.length := by simp only [List.length_append, List.length_cons]; omega
  rw [rscan_step x0 out pos (k + 1) h0 h1 h2 h3 kind _ bb hx hd (by omega), decide_eq_false (by omega)]
  exact (rscan_rest x0 out pos k h0 h1 h2 h3 kind t0 t1 t2 t3 p z bb hx hd hn g2 ho hk).1 g hf

theorem rstops {z : List Int} (hb : Bytes z) (hz : NoFrame z) (x0 : List Int) (out : List S43) (pos k : Nat) (hx : x0.length ≤ 140737488355328) (hp : pos ≤ x0.length) (hd : x0.drop pos = z) (ho : out.length < 4398046511104) (hk : 60100 ≤ k) : customsref33_Scan.l0 (k + 2) x0 out (pos : Int) = some (out, (pos : Int)) := by
  have hzl : pos + z.length = x0.length := by
    have := congrArg List.length hd
    rw [List.length_drop] at this
    omega
  by_cases h9 : z.length < 9
  · exact rscan_short (k + 1) x0 out pos hx hp (by omega)
  obtain ⟨h0, h1, h2, h3, h4, q, hY⟩ := five z h9
  have ql : z.length = q.length + 5 := by rw [hY]; simp
  have b0 := hb h0 (by rw [hY]; simp)
  have b1 := hb h1 (by rw [hY]; simp)
  rw [rscan_step x0 out pos (k + 1) h0 h1 h2 h3 h4 q (hY ▸ hb) hx (hY ▸ hd) (by omega)]
  by_cases h : 60000 < h0 * 256 + h1 ∨ (q.length : Int) < h0 * 256 + h1 + 4
  · rw [decide_eq_true h, rj1_true]
  · obtain ⟨p, t0, t1, t2, t3, r, hq, hpl⟩ := four q (h0 * 256 + h1).toNat (by omega)
    have hz3 : z = h0 :: h1 :: h2 :: h3 :: h4 :: (p ++ t0 :: t1 :: t2 :: t3 :: r) := by rw [hY, hq]
    rw [decide_eq_false h]
    refine (rscan_rest x0 out pos k h0 h1 h2 h3 h4 t0 t1 t2 t3 p r (hz3 ▸ hb) hx (hz3 ▸ hd) (by omega) (by omega) ho hk).2 ?_
    rintro ⟨g, hf⟩
    refine hz h4 p r g ?_
    rw [hf, hz3]
    simp

/-- Both scans of any bytes answer alike. -/
theorem scans_loop (x0 : List Int) (hx : x0.length ≤ 140737488355328) (z : List Int) (bz : Bytes z) (hz : NoFrame z) : ∀ (fs : List S43) (pos : Nat) (out : List S43) (k : Nat), Fine fs → Bytes (stream fs) → pos ≤ x0.length → x0.drop pos = stream fs ++ z → out.length + fs.length < 4398046511104 → 60100 ≤ k →
    journal_Scan.l0 (k + 2 * fs.length + 2) x0 out (pos : Int) = some (out ++ fs, ((pos + (stream fs).length : Nat) : Int)) ∧ customsref33_Scan.l0 (k + 2 * fs.length + 2) x0 out (pos : Int) = some (out ++ fs, ((pos + (stream fs).length : Nat) : Int)) := by
  intro fs
  induction fs with
  | nil =>
    intro pos out k _ _ hp hd ho hk
    rw [stops_noframe bz hz x0 out pos (k + 2 * ([] : List S43).length) hx hp hd (by omega), rstops bz hz x0 out pos (k + 2 * ([] : List S43).length) hx hp hd (by omega) (by omega)]
    simp [stream]
  | cons x xs ih =>
    intro pos out k hf hb hp hd ho hk
    have hx1 := hf x (List.mem_cons_self ..)
    have hx2 := hx1.1.2
    rw [stream] at hb
    rw [stream, List.append_assoc] at hd
    have hl : pos + (x.f1.length + 9) ≤ x0.length := by
      have := congrArg List.length hd
      rw [List.length_drop, List.length_append, frame_length] at this
      omega
    rw [List.length_cons] at ho
    have e : k + 2 * (x :: xs).length + 2 = (k + 2 * xs.length + 2) + 2 := by rw [List.length_cons]; omega
    have hd2 : x0.drop (pos + (x.f1.length + 9)) = stream xs ++ z := by
      rw [← List.drop_drop, hd, ← frame_length x.f0 x.f1, List.drop_left]
    rw [e, scan_frame _ x0 out pos x.f0 x.f1 (stream xs ++ z) hx1.1 hx1.2 hd hx (by omega) (by omega), rscan_frame _ x0 out pos x.f0 x.f1 (stream xs ++ z) hx1.1 hx1.2 (hb.right.append bz) hd hx (by omega) (by omega)]
    obtain ⟨i1, i2⟩ := ih (pos + (x.f1.length + 9)) (out ++ [x]) k (fun y hy => hf y (List.mem_cons_of_mem _ hy)) hb.right hl hd2 (by rw [List.length_append]; simp; omega) hk
    rw [i1, i2, List.append_assoc, stream, List.length_append, frame_length]
    have e3 : pos + (x.f1.length + 9) + (stream xs).length = pos + (x.f1.length + 9 + (stream xs).length) := by omega
    rw [e3]
    exact ⟨rfl, rfl⟩

theorem scans (x0 : List Int) (hx : x0.length ≤ 4194304) (hb : Bytes x0) (k : Nat) (hk : 1200000 ≤ k) : ∃ fs z, x0 = stream fs ++ z ∧ Fine fs ∧ 9 * fs.length ≤ x0.length ∧ journal_Scan.f k x0 = some (fs, ((stream fs).length : Int)) ∧ customsref33_Scan.f k x0 = some (fs, ((stream fs).length : Int)) := by
  obtain ⟨fs, z, h1, h2, h3, h4⟩ := parse x0.length x0 (Nat.le_refl _) hb
  have hb2 := hb
  rw [h1] at hb2
  obtain ⟨j, rfl⟩ : ∃ j, k = j + 2 * fs.length + 2 := ⟨k - 2 * fs.length - 2, by omega⟩
  have := scans_loop x0 (by omega) z hb2.right h3 fs 0 [] j h2 hb2.left (by omega) (by rw [List.drop_zero]; exact h1) (by simp; omega) (by omega)
  rw [List.nil_append, Nat.zero_add] at this
  unfold journal_Scan.f customsref33_Scan.f
  exact ⟨fs, z, h1, h2, h4, this.1, this.2⟩

theorem same_disk (a b : List Int) : customsref33_SameDisk.f a b a b = some true := by
  unfold customsref33_SameDisk.f
  rw [same_bytes, same_bytes]
  rfl

theorem rread_ok (a b : List Int) (h : a.length + b.length < 140737488355328) : customsref33_Read.f a b = some (a ++ b) := by
  unfold customsref33_Read.f
  simp only [bindS, List.nil_append, List.length_nil, Nat.zero_add]
  rw [if_pos (by omega), if_pos h]

theorem rsync_ok (a b : List Int) (h : a.length + b.length < 140737488355328) : customsref33_Sync.f a b = some (a ++ b, []) := by
  unfold customsref33_Sync.f
  rw [rread_ok a b h]
  simp only [bindS]

theorem writes (s q b : List Int) (hs : s.length ≤ 4194304) (hq : q.length ≤ 4194304) (hb : b.length ≤ 4194304) :
    ∃ x y z, disk_Write.f s q b = some (x, y, z) ∧ customsref33_Write.f s q b = some (x, y, z) ∧ x.length + y.length ≤ 12582912 ∧ (s.length + q.length + b.length ≤ 1000000 → x = s ∧ y = q ++ b ∧ z = 0) := by
  unfold disk_Write.f customsref33_Write.f
  have e1 : wrap64 ((wrap64 ((s.length : Int) + (q.length : Int))) + (b.length : Int)) = (s.length : Int) + (q.length : Int) + (b.length : Int) := by
    rw [wrapS ((s.length : Int) + (q.length : Int)) (by omega) (by omega), wrapS _ (by omega) (by omega)]
  have e2 : wrap64 ((s.length : Int) + (q.length : Int)) = (s.length : Int) + (q.length : Int) := wrapS _ (by omega) (by omega)
  have e3 : wrap64 (1000000 - (b.length : Int)) = 1000000 - (b.length : Int) := wrapS _ (by omega) (by omega)
  rw [e1, e2, e3]
  clear e1 e2 e3
  by_cases h : (s.length : Int) + (q.length : Int) + (b.length : Int) > 1000000
  · rw [if_pos h, if_pos (by omega)]
    exact ⟨_, _, _, rfl, rfl, by simp, fun h2 => by omega⟩
  · rw [if_neg h, if_neg (by omega), joined_ok _ _ (by simp; omega), joined_ok _ _ (by omega)]
    simp only [bindS, List.nil_append, List.length_nil, Nat.zero_add, List.append_nil]
    rw [if_pos (by omega), if_pos (by omega)]
    exact ⟨_, _, _, rfl, rfl, by rw [List.length_append]; omega, fun _ => ⟨rfl, rfl, rfl⟩⟩

theorem puts (s q : List Int) (kind : Int) (p : List Int) (hb : Bytes p) (hs : s.length ≤ 4194304) (hq : q.length ≤ 4194304) (k : Nat) (hk : 60100 ≤ k) :
    ∃ x y z, journal_Put.f k s q kind p = some (x, y, z) ∧ customsref33_Put.f k s q kind p = some (x, y, z) ∧ x.length + y.length ≤ 12582912 ∧ (GoodF kind p → s.length + q.length + (p.length + 9) ≤ 1000000 → x = s ∧ y = q ++ frame kind p ∧ z = 0) := by
  obtain ⟨b, e, h1, h2, h3⟩ := encodes kind p hb k hk
  unfold journal_Put.f customsref33_Put.f
  rw [h1, h2]
  simp only [bindS]
  by_cases he : e = 0
  · obtain ⟨g, hbf⟩ := h3 he
    have g2 := g.2
    have hl : b.length = p.length + 9 := by rw [hbf, frame_length]
    obtain ⟨x, y, z, w1, w2, w3, w4⟩ := writes s q b hs hq (by omega)
    rw [if_pos he, if_pos he, w1, w2]
    simp only [bindS]
    refine ⟨_, _, _, rfl, rfl, w3, fun _ h => ?_⟩
    rw [← hbf]
    exact w4 (by omega)
  · rw [if_neg he, if_neg he]
    refine ⟨_, _, _, rfl, rfl, by simp, fun g _ => ?_⟩
    have g2 := g.2
    have := encode_ok kind p k g hb (by omega)
    rw [h1] at this
    have := Option.some.inj this
    rw [Prod.mk.injEq] at this
    exact absurd this.2 he

theorem appends (s q p : List Int) (hb : Bytes p) (hs : s.length ≤ 4194304) (hq : q.length ≤ 4194304) (k : Nat) (hk : 60100 ≤ k) :
    ∃ x y z, journal_Append.f k s q p = some (x, y, z) ∧ customsref33_Append.f k s q p = some (x, y, z) := by
  obtain ⟨x, y, z, h1, h2, h3, _⟩ := puts s q 1 p hb hs hq k hk
  unfold journal_Append.f customsref33_Append.f
  rw [h1, h2]
  simp only [bindS]
  by_cases he : z = 0
  · rw [if_pos he, if_pos he, sync_ok _ _ (by omega), rsync_ok _ _ (by omega)]
    simp only [bindS]
    exact ⟨_, _, _, rfl, rfl⟩
  · rw [if_neg he, if_neg he]
    exact ⟨_, _, _, rfl, rfl⟩

theorem rtrunc_ok (s q : List Int) (n : Nat) (hn : n ≤ s.length + q.length) (hs : s.length + q.length ≤ 4194304) : customsref33_Truncate.f s q (n : Int) = some ((s ++ q).take n, [], 0) := by
  unfold customsref33_Truncate.f
  rw [rread_ok _ _ (by omega)]
  simp only [bindS, List.length_append]
  rw [if_neg (by omega), if_neg (by omega), if_pos (by omega), if_pos (by omega), Int.toNat_natCast]

theorem ropen_loop (fs : List S43) (a b : List Int) (hf : fs.length ≤ 4398046511104) : ∀ (m i : Nat) (s : List Int) (r : List (List Int)) (f : Bool) (k : Nat), i + m = fs.length → m < k → r.length ≤ i →
    customsref33_Open.l0 k fs s f r (i : Int) a b = some (a, b, (foldO (fs.drop i) (s, r, f)).1, (foldO (fs.drop i) (s, r, f)).2.2, (foldO (fs.drop i) (s, r, f)).2.1) := by
  intro m
  induction m with
  | zero =>
    intro i s r f k hi hk hr
    obtain ⟨k, rfl⟩ : ∃ j, k = j + 1 := ⟨k - 1, by omega⟩
    rw [customsref33_Open.l0, if_neg (by omega), List.drop_eq_nil_of_le (by omega)]
    rfl
  | succ m ih =>
    intro i s r f k hi hk hr
    obtain ⟨k, rfl⟩ : ∃ j, k = j + 1 := ⟨k - 1, by omega⟩
    have hlt : i < fs.length := by omega
    have hw : wrap64 ((i : Int) + 1) = ((i + 1 : Nat) : Int) := by rw [wrapS _ (by omega) (by omega)]; omega
    rw [customsref33_Open.l0, if_pos (by omega), if_pos (by omega), rdT_ge fs i hlt, hw, List.drop_eq_getElem_cons hlt]
    by_cases h2 : fs[i].f0 = 2
    · rw [if_pos h2, ih (i + 1) _ _ _ k (by omega) (by omega) (by simp), foldO, if_pos h2]
    · rw [if_neg h2, if_pos (by omega), ih (i + 1) _ _ _ k (by omega) (by omega) (by simp; omega), foldO, if_neg h2]

theorem foldO_short : ∀ (fs : List S43) (t : List Int × List (List Int) × Bool), (foldO fs t).2.1.length ≤ t.2.1.length + fs.length
  | [], t => by simp [foldO]
  | x :: xs, t => by
    rw [foldO, List.length_cons]
    split
    · have := foldO_short xs (x.f1, [], true)
      simp only [List.length_nil] at this
      omega
    · have := foldO_short xs (t.1, t.2.1 ++ [x.f1], t.2.2)
      simp only [List.length_append, List.length_cons, List.length_nil] at this
      omega

theorem opens (s q : List Int) (hs : s.length + q.length ≤ 4194304) (bs : Bytes s) (bq : Bytes q) (k : Nat) (hk : 1200000 ≤ k) :
    ∃ a b c d e, journal_Open.f k s q = some (a, b, c, d, e) ∧ customsref33_Open.f k s q = some (a, b, c, d, e) ∧ e.length ≤ 466034 := by
  obtain ⟨fs, z, h1, _, h9, h3, h4⟩ := scans (s ++ q) (by rw [List.length_append]; exact hs) (bs.append bq) k hk
  have hlen := congrArg List.length h1
  rw [List.length_append, List.length_append] at hlen
  rw [List.length_append] at h9
  unfold journal_Open.f customsref33_Open.f
  rw [read_ok _ _ (by omega), rread_ok _ _ (by omega)]
  simp only [bindS]
  rw [h3, h4]
  simp only [bindS]
  rw [trunc_ok s q _ (by omega) hs, rtrunc_ok s q _ (by omega) hs]
  simp only [bindS]
  have o1 := open_loop fs ((s ++ q).take (stream fs).length) [] (by omega) fs.length 0 [] [] false k (by omega) (by omega) (by simp)
  have o2 := ropen_loop fs ((s ++ q).take (stream fs).length) [] (by omega) fs.length 0 [] [] false k (by omega) (by omega) (by simp)
  refine ⟨_, _, _, _, _, o1, o2, ?_⟩
  have := foldO_short (fs.drop 0) ([], [], false)
  rw [List.drop_zero] at this ⊢
  simp only [List.length_nil] at this
  omega

theorem join4 (c d : List Int) (h : c.length + d.length ≤ 4194304) (bc : Bytes c) (bd : Bytes d) (k : Nat) (hk : 1200000 ≤ k) : customslaw34_JournalOpen.j4 (k + 1) false c d = some true := by
  obtain ⟨a, b, s, f, r, h1, h2, h3⟩ := opens c d h bc bd k hk
  rw [customslaw34_JournalOpen.j4, if_neg (by simp), h1, h2]
  simp only [bindS, same_disk, same_bytes, if_true]
  rw [if_pos (by simp), same_recs_ok r (by omega) k (by omega), awake_true k (by omega)]
  simp only [bindS, if_true]

theorem join3 (kind : Int) (p : List Int) (bp : Bytes p) (c d : List Int) (h : c.length + d.length ≤ 4194304) (bc : Bytes c) (bd : Bytes d) (k : Nat) (hk : 1200000 ≤ k) : customslaw34_JournalOpen.j3 (k + 1 + 1) kind p c d = some true := by
  obtain ⟨x, y, z, h1, h2, _, _⟩ := puts c d kind p bp (by omega) (by omega) (k + 1) (by omega)
  obtain ⟨x', y', z', h3, h4⟩ := appends c d p bp (by omega) (by omega) (k + 1) (by omega)
  rw [customslaw34_JournalOpen.j3, h1, h2, h3, h4]
  simp only [bindS, same_disk, if_true, Bool.not_true]
  exact join4 c d h bc bd k hk

theorem build (x0 : List (List Int)) (x1 : List Bool) (kind : Int) (pl : List Int) (bpl : Bytes pl) (h16 : x0.length ≤ 16) (he : ∀ p ∈ x0, p.length ≤ 300 ∧ Bytes p) : ∀ (m i : Nat) (c d : List Int) (k : Nat), i + m = x0.length → 1200000 ≤ k → c.length + d.length ≤ i * 309 → Bytes c → Bytes d →
    customslaw34_JournalOpen.l0 (k + 3 * m + 3) x0 x1 (i : Int) kind pl c d = some true := by
  intro m
  induction m with
  | zero =>
    intro i c d k hi hk hl bc bd
    rw [customslaw34_JournalOpen.l0, if_neg (by omega)]
    exact join3 kind pl bpl c d (by omega) bc bd k hk
  | succ m ih =>
    intro i c d k hi hk hl bc bd
    have hlt : i < x0.length := by omega
    have hp := he x0[i] (List.getElem_mem hlt)
    have e : k + 3 * (m + 1) + 3 = (k + 3 * m + 3) + 3 := by omega
    have hw : wrap64 ((i : Int) + 1) = ((i + 1 : Nat) : Int) := by rw [wrapS _ (by omega) (by omega)]; omega
    have key : ∀ t : Int, (t = 1 ∨ t = 2) → customslaw34_JournalOpen.j2 ((k + 3 * m + 3) + 1) x0 x1 (i : Int) t kind pl c d = some true := by
      intro t ht
      have g : GoodF t x0[i] := ⟨ht, by omega⟩
      obtain ⟨x, y, z, _, h2, _, h4⟩ := puts c d t x0[i] hp.2 (by omega) (by omega) (k + 3 * m + 3) (by omega)
      obtain ⟨e1, e2, e3⟩ := h4 g (by omega)
      subst e1; subst e2; subst e3
      have bf : Bytes (d ++ frame t x0[i]) := bd.append (frame_bytes hp.2)
      rw [customslaw34_JournalOpen.j2, if_pos (by omega), if_pos (by omega), rdL1_ge x0 i hlt, h2]
      simp only [bindS]
      by_cases h3 : Int.tmod (i : Int) 3 = 1
      · rw [if_pos h3, rsync_ok _ _ (by rw [List.length_append, frame_length]; omega)]
        simp only [bindS]
        rw [hw]
        exact ih (i + 1) _ _ k (by omega) hk (by simp only [List.length_append, frame_length, List.length_nil]; omega) (bc.append bf) Bytes.nil
      · rw [if_neg h3, hw]
        exact ih (i + 1) _ _ k (by omega) hk (by simp only [List.length_append, frame_length]; omega) bc bf
    have hj : ∀ b : Bool, customslaw34_JournalOpen.j1 ((k + 3 * m + 3) + 2) x0 x1 (i : Int) 1 b kind pl c d = some true := by
      intro b
      rw [customslaw34_JournalOpen.j1]
      by_cases hb : b = true
      · rw [if_pos hb]; exact key 2 (Or.inr rfl)
      · rw [if_neg hb]; exact key 1 (Or.inl rfl)
    rw [e, customslaw34_JournalOpen.l0, if_pos (by omega)]
    by_cases hx : (i : Int) < (x1.length : Int)
    · rw [if_pos hx, if_pos (by omega)]
      exact hj _
    · rw [if_neg hx]
      exact hj _

theorem pure (l0 : List (List Int)) (hw0 : ∀ x ∈ l0, ∀ z ∈ x, (Lit.int .u8 z).wf = true) (l1 : List Bool) (l2_0 : List Int) (hw2_0 : ∀ x ∈ l2_0, (Lit.int .u8 x).wf = true) (hl2_0 : l2_0.length ≤ 1048576) (l2_1 : List Int) (hw2_1 : ∀ x ∈ l2_1, (Lit.int .u8 x).wf = true) (hl2_1 : l2_1.length ≤ 1048576) (a3_0 : Int) (_w3_0 : (Lit.int .i64 a3_0).wf = true) (l3_1 : List Int) (hw3_1 : ∀ x ∈ l3_1, (Lit.int .u8 x).wf = true) (_hl3_1 : l3_1.length ≤ 1048576) (a4 : Bool) :
    ∃ k, customslaw34_JournalOpen.f k l0 l1 l2_0 l2_1 a3_0 l3_1 a4 = some true := by
  obtain ⟨K, hK⟩ : ∃ K : Nat, K = 1200000 := ⟨_, rfl⟩
  have hK' : 1200000 ≤ K := by omega
  clear hK
  refine ⟨K + 3 * (cutS l0).length + 3, ?_⟩
  unfold customslaw34_JournalOpen.f
  rw [cut_ok _ _ (by omega)]
  simp only [bindS]
  by_cases h : a4 = true
  · rw [if_pos h]
    exact join3 a3_0 l3_1 (bytes_of hw3_1) l2_0 l2_1 (by omega) (bytes_of hw2_0) (bytes_of hw2_1) (K + 3 * (cutS l0).length + 1) (by omega)
  · rw [if_neg h]
    exact build (cutS l0) l1 a3_0 l3_1 (bytes_of hw3_1) (cut_length l0) (cut_each l0 (fun x hx => bytes_of (hw0 x hx))) (cutS l0).length 0 [] [] K (by omega) hK' (by simp) Bytes.nil Bytes.nil

end Go.Proofs.Ythnlepmfjhhgfaa.PureJournalOpen
