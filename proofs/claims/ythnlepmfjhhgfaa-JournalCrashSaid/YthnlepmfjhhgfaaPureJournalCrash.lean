/-
  The pure statement of the law JournalCrash: the printed functions answer true. (Put together by wip/prt/frag/pure.py.)
-/
import Derived.Test.YthnlepmfjhhgfaaPJournalCrashx5
import Derived.Test.YthnlepmfjhhgfaaPureFrame
import Derived.KernelRfl
namespace Go.Proofs.Ythnlepmfjhhgfaa.PureJournalCrash
set_option linter.unusedVariables false
open Go.RowKit Go.Proofs.Ythnlepmfjhhgfaa.PJournalCrash Go.Proofs.Ythnlepmfjhhgfaa.PureFrame Go.Proofs.YthnlepmfjhhgfaaW.PrintWords Go.Proofs.YthnlepmfjhhgfaaW.PrintLast Go.Proofs.YthnlepmfjhhgfaaW.PrintMore

theorem num_step (k : Nat) (n : Int) (l : List Int) (i : Nat) (hi : i < l.length) (hl : l.length ≤ 140737488355328) (n0 : 0 ≤ n) (n1 : n < 16777216) (hb : Bytes l) :
    journal_number.l0 (k + 1) n l (l.length : Int) (i : Int) = journal_number.l0 k (n * 256 + l[i]) l (l.length : Int) ((i + 1 : Nat) : Int) := by
  have hx := hb l[i] (List.getElem_mem hi)
  rw [journal_number.l0, if_pos (by omega), if_pos (by omega), if_pos (by omega), rd_ge l i hi, or_byte _ _ n0 n1 hx.1 hx.2, wrapS _ (by omega) (by omega)]
  rfl

theorem num_end (k : Nat) (n : Int) (l : List Int) : journal_number.l0 (k + 1) n l (l.length : Int) (l.length : Int) = some n := by
  rw [journal_number.l0, if_neg (by omega)]

theorem number2 (k : Nat) (a b : Int) (hb : Bytes [a, b]) : journal_number.f (k + 3) [a, b] = some (a * 256 + b) := by
  have h0 := hb a (by simp)
  have h1 := hb b (by simp)
  unfold journal_number.f
  have s0 := num_step (k + 2) 0 [a, b] 0 (by simp) (by simp) (by omega) (by omega) hb
  have s1 := num_step (k + 1) (0 * 256 + a) [a, b] 1 (by simp) (by simp) (by omega) (by omega) hb
  have s2 := num_end k ((0 * 256 + a) * 256 + b) [a, b]
  refine (s0.trans (s1.trans (s2.trans ?_)))
  congr 1
  omega

theorem number4 (k : Nat) (a b c d : Int) (hb : Bytes [a, b, c, d]) : journal_number.f (k + 5) [a, b, c, d] = some (a * 16777216 + b * 65536 + c * 256 + d) := by
  have h0 := hb a (by simp)
  have h1 := hb b (by simp)
  have h2 := hb c (by simp)
  have h3 := hb d (by simp)
  unfold journal_number.f
  have s0 := num_step (k + 4) 0 [a, b, c, d] 0 (by simp) (by simp) (by omega) (by omega) hb
  have s1 := num_step (k + 3) (0 * 256 + a) [a, b, c, d] 1 (by simp) (by simp) (by omega) (by omega) hb
  have s2 := num_step (k + 2) ((0 * 256 + a) * 256 + b) [a, b, c, d] 2 (by simp) (by simp) (by omega) (by omega) hb
  have s3 := num_step (k + 1) (((0 * 256 + a) * 256 + b) * 256 + c) [a, b, c, d] 3 (by simp) (by simp) (by omega) (by omega) hb
  have s4 := num_end k ((((0 * 256 + a) * 256 + b) * 256 + c) * 256 + d) [a, b, c, d]
  refine (s0.trans (s1.trans (s2.trans (s3.trans (s4.trans ?_)))))
  congr 1
  omega

theorem cks_loop (l : List Int) (hb : Bytes l) (hl : l.length ≤ 140737488355328) : ∀ (m i : Nat) (a b : Int) (k : Nat), i + m = l.length → m < k → 0 ≤ a → a < 65521 → 0 ≤ b → b < 65521 →
    message_Checksum.l0 k a b l (l.length : Int) (i : Int) = some ((cksP (l.drop i) a b).2 * 65536 + (cksP (l.drop i) a b).1) := by
  intro m
  induction m with
  | zero =>
    intro i a b k hi hk a0 a1 b0 b1
    obtain ⟨k, rfl⟩ : ∃ j, k = j + 1 := ⟨k - 1, by omega⟩
    rw [message_Checksum.l0, if_neg (by omega), List.drop_eq_nil_of_le (by omega)]
    unfold cksP
    rw [wrapS (b * 65536) (by omega) (by omega), wrapS _ (by omega) (by omega)]
  | succ m ih =>
    intro i a b k hi hk a0 a1 b0 b1
    obtain ⟨k, rfl⟩ : ∃ j, k = j + 1 := ⟨k - 1, by omega⟩
    have hlt : i < l.length := by omega
    have hx := hb l[i] (List.getElem_mem hlt)
    rw [message_Checksum.l0, if_pos (by omega), if_pos (by omega), if_pos (by omega), rd_ge l i hlt, wrapS l[i] (by omega) (by omega), wrapS (a + l[i]) (by omega) (by omega),
      Int.tmod_eq_emod_of_nonneg (by omega), wrapS (b + (a + l[i]) % 65521) (by omega) (by omega), Int.tmod_eq_emod_of_nonneg (by omega), wrapS ((i : Int) + 1) (by omega) (by omega)]
    rw [List.drop_eq_getElem_cons hlt]
    exact ih (i + 1) _ _ k (by omega) (by omega) (by omega) (by omega) (by omega) (by omega)

theorem cks_ok (l : List Int) (hb : Bytes l) (hl : l.length ≤ 140737488355328) (k : Nat) (hk : l.length < k) : message_Checksum.f k l = some (cks l) := by
  unfold message_Checksum.f
  exact cks_loop l hb hl l.length 0 1 0 k (by omega) hk (by omega) (by omega) (by omega) (by omega)

theorem valid_ok (kind : Int) : journal_validKind.f kind = some (decide (kind = 1 ∨ kind = 2)) := by
  unfold journal_validKind.f
  by_cases h : kind = 1
  · rw [if_pos h]; simp [h]
  · rw [if_neg h]
    by_cases h2 : kind = 2
    · simp [h2]
    · simp [h, h2]

theorem encode_ok (kind : Int) (p : List Int) (k : Nat) (g : GoodF kind p) (hb : Bytes p) (hk : p.length + 6 ≤ k) : journal_Encode.f k kind p = some (frame kind p, 0) := by
  have g2 := g.2
  unfold journal_Encode.f
  rw [valid_ok]
  simp only [Option.bind_some, g.1, decide_true, if_true]
  rw [if_neg (by omega), wrapS (5 + (p.length : Int)) (by omega) (by omega), wrapS (5 + (p.length : Int) + 4) (by omega) (by omega), wrapS (65535 - (p.length : Int)) (by omega) (by omega), if_pos (by omega), if_pos (by omega)]
  simp only [List.nil_append, List.length_nil, List.length_cons, Nat.zero_add]
  rw [if_pos (by omega), if_pos (by omega)]
  have e : ([(p.length : Int) / 256 % 256, (p.length : Int) % 256, (65535 - (p.length : Int)) / 256 % 256, (65535 - (p.length : Int)) % 256, kind % 256] ++ p) = body kind p := rfl
  rw [e, cks_ok _ (body_bytes hb) (by rw [body_length]; omega) k (by rw [body_length]; omega)]
  simp only [Option.bind_some]
  rw [if_pos (by rw [body_length]; omega)]
  rfl

theorem encode_kind (kind : Int) (p : List Int) (k : Nat) (h : ¬ (kind = 1 ∨ kind = 2)) : journal_Encode.f k kind p = some ([], 2) := by
  unfold journal_Encode.f
  rw [valid_ok]
  simp [h]

theorem encode_long (kind : Int) (p : List Int) (k : Nat) (h : kind = 1 ∨ kind = 2) (h2 : 60000 < p.length) : journal_Encode.f k kind p = some ([], 8) := by
  unfold journal_Encode.f
  rw [valid_ok]
  simp only [Option.bind_some, h, decide_true, if_true]
  rw [if_pos (by omega)]

theorem scan_frame (k : Nat) (x0 : List Int) (out : List S43) (pos : Nat) (kind : Int) (p z : List Int) (g : GoodF kind p) (hb : Bytes p) (hd : x0.drop pos = frame kind p ++ z) (hx : x0.length ≤ 140737488355328) (ho : out.length < 4398046511104) (hk : p.length + 20 ≤ k) :
    journal_Scan.l0 (k + 2) x0 out (pos : Int) = journal_Scan.l0 k x0 (out ++ [(⟨kind, p⟩ : S43)]) ((pos + (p.length + 9) : Nat) : Int) := by
  have g1 := g.1
  have g2 := g.2
  have hle : pos + (p.length + 9) ≤ x0.length := by
    have := congrArg List.length hd
    rw [List.length_drop, List.length_append, frame_length] at this
    omega
  have hyl : ((frame kind p ++ z).length : Int) = (p.length : Int) + 9 + z.length := by rw [List.length_append, frame_length]; omega
  have hzl : pos + (p.length + 9) + z.length = x0.length := by
    have := congrArg List.length hd
    rw [List.length_drop, List.length_append, frame_length] at this
    omega
  have e2 : (frame kind p ++ z).take 2 = [(p.length : Int) / 256 % 256, (p.length : Int) % 256] := rfl
  have e4 : ((frame kind p ++ z).take 4).drop 2 = [(65535 - (p.length : Int)) / 256 % 256, (65535 - (p.length : Int)) % 256] := rfl
  have b2 : Bytes [(p.length : Int) / 256 % 256, (p.length : Int) % 256] := by intro x hx; simp at hx; omega
  have b4 : Bytes [(65535 - (p.length : Int)) / 256 % 256, (65535 - (p.length : Int)) % 256] := by intro x hx; simp at hx; omega
  obtain ⟨j, rfl⟩ : ∃ j, k = j + 5 := ⟨k - 5, by omega⟩
  rw [journal_Scan.l0, if_pos (by omega), if_pos (by omega), Int.toNat_natCast, hd]
  simp only [Option.bind_some]
  rw [if_neg (by omega), if_pos (by omega), e2, number2 _ _ _ b2]
  simp only [Option.bind_some]
  rw [if_pos (by omega), if_pos (by omega), if_pos (by omega), e4, number2 _ _ _ b4]
  simp only [Option.bind_some]
  have n1 : (p.length : Int) / 256 % 256 * 256 + (p.length : Int) % 256 = p.length := by omega
  have n2 : (65535 - (p.length : Int)) / 256 % 256 * 256 + (65535 - (p.length : Int)) % 256 = 65535 - p.length := by omega
  have k1 : wrap64 (kind % 256) = kind := by rw [wrapS _ (by omega) (by omega)]; omega
  have w1 : wrap64 (5 + (p.length : Int)) = 5 + (p.length : Int) := wrapS _ (by omega) (by omega)
  have e5 : rd (frame kind p ++ z) 4 = kind % 256 := rfl
  rw [n1, n2, e5, k1, w1]
  clear e5 k1 w1 n1 n2
  rw [ wrapS ((p.length : Int) + (65535 - (p.length : Int))) (by omega) (by omega), if_pos (by omega), valid_ok]
  simp only [Option.bind_some, g1, decide_true, if_true]
  have hw : wrap64 (5 + (p.length : Int) + 4) = (p.length : Int) + 9 := by rw [wrapS _ (by omega) (by omega)]; omega
  have hf : ¬ (decide ((p.length : Int) > 60000) = true) := by rw [decide_eq_true_eq]; omega
  rw [journal_Scan.j1, if_neg hf, hw]
  rw [if_neg (show ¬ (((frame kind p ++ z).length : Int) < (p.length : Int) + 9) by omega)]
  rw [if_pos (show 0 ≤ 5 + (p.length : Int) by omega)]
  rw [if_pos (show 5 + (p.length : Int) ≤ ((frame kind p ++ z).length : Int) by omega)]
  have t1 : (5 + (p.length : Int)).toNat = (body kind p).length := by rw [body_length]; omega
  have t2 : ((p.length : Int) + 9).toNat = (frame kind p).length := by rw [frame_length]; omega
  have e6 : (frame kind p ++ z).take (body kind p).length = body kind p := by unfold frame; rw [List.append_assoc, List.take_left]
  have e7 : ((frame kind p ++ z).take (frame kind p).length).drop (body kind p).length = tail4 (cks (body kind p)) := by rw [List.take_left]; unfold frame; rw [List.drop_left]
  rw [t1, t2, e6, e7, cks_ok _ (body_bytes hb) (by rw [body_length]; omega) _ (by rw [body_length]; omega)]
  simp only [Option.bind_some]
  rw [if_pos (show 5 + (p.length : Int) ≤ (p.length : Int) + 9 by omega)]
  rw [if_pos (show (p.length : Int) + 9 ≤ ((frame kind p ++ z).length : Int) by omega)]
  have hc := cks_range (body kind p)
  have e8 : tail4 (cks (body kind p)) = [cks (body kind p) / 16777216 % 256, cks (body kind p) / 65536 % 256, cks (body kind p) / 256 % 256, cks (body kind p) % 256] := rfl
  rw [e8, number4 _ _ _ _ _ (e8 ▸ tail_bytes _)]
  simp only [Option.bind_some]
  rw [if_pos (by omega), if_pos (by omega)]
  have e9 : (body kind p).drop 5 = p := rfl
  unfold slices_Clone_byte_byte.f XJoined.cloneF
  rw [e9, if_pos (by omega)]
  simp only [Option.bind_some]
  rw [if_pos ho, wrapS ((pos : Int) + ((p.length : Int) + 9)) (by omega) (by omega)]
  congr 1

theorem scan_short (k : Nat) (x0 : List Int) (out : List S43) (pos : Nat) (hp : pos ≤ x0.length) (h : x0.length < pos + 9) :
    journal_Scan.l0 (k + 1) x0 out (pos : Int) = some (out, (pos : Int)) := by
  rw [journal_Scan.l0, if_pos (by omega), if_pos (by omega), Int.toNat_natCast]
  simp only [Option.bind_some]
  rw [if_pos (by rw [List.length_drop]; omega)]

def stream : List S43 → List Int
  | [] => []
  | x :: xs => frame x.f0 x.f1 ++ stream xs
def Fine (fs : List S43) : Prop := ∀ x ∈ fs, GoodF x.f0 x.f1 ∧ Bytes x.f1

theorem stream_append (a b : List S43) : stream (a ++ b) = stream a ++ stream b := by
  induction a with
  | nil => rfl
  | cons x xs ih => simp only [List.cons_append, stream, ih, List.append_assoc]

def Stops (z : List Int) : Prop := ∀ (x0 : List Int) (out : List S43) (pos k : Nat), x0.length ≤ 140737488355328 → pos ≤ x0.length → x0.drop pos = z → 20 ≤ k → journal_Scan.l0 (k + 2) x0 out (pos : Int) = some (out, (pos : Int))

theorem stops_short {z : List Int} (h : z.length < 9) : Stops z := by
  intro x0 out pos k _ hp hd _
  refine scan_short (k + 1) x0 out pos hp ?_
  rw [← hd, List.length_drop] at h
  omega

theorem stops_torn {z z' : List Int} {kind : Int} {p : List Int} (g : GoodF kind p) (hz : z ++ z' = frame kind p) (hz' : z' ≠ []) : Stops z := by
  intro x0 out pos k hx hp hd hk
  have g1 := g.1
  have g2 := g.2
  have hl' : 0 < z'.length := List.length_pos_iff.2 hz'
  have hl : z.length + z'.length = p.length + 9 := by
    have := congrArg List.length hz
    rw [List.length_append, frame_length] at this
    exact this
  by_cases h9 : z.length < 9
  · exact stops_short h9 x0 out pos k hx hp hd hk
  have hzl : pos + z.length = x0.length := by
    have := congrArg List.length hd
    rw [List.length_drop] at this
    omega
  obtain ⟨h0, h1, h2, h3, h4, q, rfl⟩ : ∃ h0 h1 h2 h3 h4 q, z = h0 :: h1 :: h2 :: h3 :: h4 :: q := by
    match z, h9 with
    | h0 :: h1 :: h2 :: h3 :: h4 :: q, _ => exact ⟨h0, h1, h2, h3, h4, q, rfl⟩
    | [], h => simp at h
    | [_], h => simp at h
    | [_, _], h => simp at h
    | [_, _, _], h => simp at h
    | [_, _, _, _], h => simp at h
  have hf := hz
  unfold frame body head at hf
  simp only [List.cons_append, List.nil_append, List.cons.injEq] at hf
  obtain ⟨f0, f1, f2, f3, f4, _⟩ := hf
  subst f0; subst f1; subst f2; subst f3; subst f4
  clear hz
  have b2 : Bytes [(p.length : Int) / 256 % 256, (p.length : Int) % 256] := by intro x hx; simp at hx; omega
  have b4 : Bytes [(65535 - (p.length : Int)) / 256 % 256, (65535 - (p.length : Int)) % 256] := by intro x hx; simp at hx; omega
  obtain ⟨j, rfl⟩ : ∃ j, k = j + 5 := ⟨k - 5, by omega⟩
  generalize hY : ((p.length : Int) / 256 % 256 :: (p.length : Int) % 256 :: (65535 - (p.length : Int)) / 256 % 256 :: (65535 - (p.length : Int)) % 256 :: kind % 256 :: q) = Y at *
  have e2 : Y.take 2 = [(p.length : Int) / 256 % 256, (p.length : Int) % 256] := by rw [← hY]; rfl
  have e4 : (Y.take 4).drop 2 = [(65535 - (p.length : Int)) / 256 % 256, (65535 - (p.length : Int)) % 256] := by rw [← hY]; rfl
  rw [journal_Scan.l0, if_pos (by omega), if_pos (by omega), Int.toNat_natCast, hd]
  simp only [Option.bind_some]
  rw [if_neg (by omega), if_pos (by omega), e2, number2 _ _ _ b2]
  simp only [Option.bind_some]
  rw [if_pos (by omega), if_pos (by omega), if_pos (by omega), e4, number2 _ _ _ b4]
  simp only [Option.bind_some]
  have n1 : (p.length : Int) / 256 % 256 * 256 + (p.length : Int) % 256 = p.length := by omega
  have n2 : (65535 - (p.length : Int)) / 256 % 256 * 256 + (65535 - (p.length : Int)) % 256 = 65535 - p.length := by omega
  have k1 : wrap64 (kind % 256) = kind := by rw [wrapS _ (by omega) (by omega)]; omega
  have w1 : wrap64 (5 + (p.length : Int)) = 5 + (p.length : Int) := wrapS _ (by omega) (by omega)
  have e5 : rd Y 4 = kind % 256 := by rw [← hY]; rfl
  rw [n1, n2, e5, k1, w1]
  clear e5 k1 w1 n1 n2
  rw [wrapS ((p.length : Int) + (65535 - (p.length : Int))) (by omega) (by omega), if_pos (by omega), valid_ok]
  simp only [Option.bind_some, g1, decide_true, if_true]
  have hw : wrap64 (5 + (p.length : Int) + 4) = (p.length : Int) + 9 := by rw [wrapS _ (by omega) (by omega)]; omega
  have hf : ¬ (decide ((p.length : Int) > 60000) = true) := by rw [decide_eq_true_eq]; omega
  rw [journal_Scan.j1, if_neg hf, hw, if_pos (by omega)]

theorem scan_all (x0 : List Int) (hx : x0.length ≤ 140737488355328) (z : List Int) (hz : Stops z) : ∀ (fs : List S43) (pos : Nat) (out : List S43) (k : Nat), Fine fs → pos ≤ x0.length → x0.drop pos = stream fs ++ z → out.length + fs.length < 4398046511104 → 60020 ≤ k →
    journal_Scan.l0 (k + 2 * fs.length + 2) x0 out (pos : Int) = some (out ++ fs, ((pos + (stream fs).length : Nat) : Int)) := by
  intro fs
  induction fs with
  | nil =>
    intro pos out k _ hp hd _ hk
    rw [hz x0 out pos (k + 2 * ([] : List S43).length) hx hp hd (by omega)]
    simp [stream]
  | cons x xs ih =>
    intro pos out k hf hp hd ho hk
    have hx1 := hf x (List.mem_cons_self ..)
    have hx2 := hx1.1.2
    rw [stream, List.append_assoc] at hd
    have hl : pos + (x.f1.length + 9) ≤ x0.length := by
      have := congrArg List.length hd
      rw [List.length_drop, List.length_append, frame_length] at this
      omega
    rw [List.length_cons] at ho
    have e : k + 2 * (x :: xs).length + 2 = (k + 2 * xs.length + 2) + 2 := by rw [List.length_cons]; omega
    rw [e, scan_frame _ x0 out pos x.f0 x.f1 (stream xs ++ z) hx1.1 hx1.2 hd hx (by omega) (by omega)]
    have hd2 : x0.drop (pos + (x.f1.length + 9)) = stream xs ++ z := by
      rw [← List.drop_drop, hd, ← frame_length x.f0 x.f1, List.drop_left]
    rw [ih (pos + (x.f1.length + 9)) (out ++ [x]) k (fun y hy => hf y (List.mem_cons_of_mem _ hy)) hl hd2 (by rw [List.length_append]; simp; omega) hk]
    rw [List.append_assoc, stream, List.length_append, frame_length]
    congr 2
    omega

theorem scan_ok (x0 : List Int) (hx : x0.length ≤ 140737488355328) (fs : List S43) (z : List Int) (hz : Stops z) (hf : Fine fs) (hd : x0 = stream fs ++ z) (ho : fs.length < 4398046511104) (k : Nat) (hk : 60022 + 2 * fs.length ≤ k) :
    journal_Scan.f k x0 = some (fs, ((stream fs).length : Int)) := by
  unfold journal_Scan.f
  obtain ⟨j, rfl⟩ : ∃ j, k = j + 2 * fs.length + 2 := ⟨k - 2 * fs.length - 2, by omega⟩
  have := scan_all x0 hx z hz fs 0 [] j hf (by omega) (by rw [List.drop_zero]; exact hd) (by simpa using ho) (by omega)
  rw [List.nil_append, Nat.zero_add] at this
  exact this

theorem up {α : Type} {f : Nat → Option α} (hm : ∀ k, LeO (f k) (f (k + 1))) {r : α} {k0 : Nat} (h : f k0 = some r) : ∀ {k : Nat}, k0 ≤ k → f k = some r := by
  intro k hk
  induction hk with
  | refl => exact h
  | step _ ih => exact hm _ _ ih

theorem same_bytes (a : List Int) : customsref33_SameBytes.f a a = some true := by
  unfold customsref33_SameBytes.f
  rw [beq_self_eq_true]

def cutS (l : List (List Int)) : List (List Int) := (l.take 16).map fun p => p.take 300

theorem rdL1_ge (l : List (List Int)) (i : Nat) (h : i < l.length) : rd_L1 l (i : Int) = l[i] := by
  unfold rd_L1
  rw [Int.toNat_natCast, List.getD_eq_getElem?_getD, List.getElem?_eq_getElem h]
  rfl

theorem cut_loop (l : List (List Int)) : ∀ (m i : Nat) (out : List (List Int)) (k : Nat), i + m = min l.length 16 → 2 * m + 2 ≤ k → out.length = i →
    customslaw34_cut.l0 k l out (i : Int) = some (out ++ ((l.take 16).drop i).map fun p => p.take 300) := by
  intro m
  induction m with
  | zero =>
    intro i out k hi hk ho
    obtain ⟨k, rfl⟩ : ∃ j, k = j + 2 := ⟨k - 2, by omega⟩
    rw [List.drop_eq_nil_of_le (by rw [List.length_take]; omega), customslaw34_cut.l0]
    by_cases h : (i : Int) < (l.length : Int)
    · have hf : ¬ (decide ((i : Int) < 16) = true) := by rw [decide_eq_true_eq]; omega
      rw [if_pos h, customslaw34_cut.j1, if_neg hf]
      simp
    · rw [if_neg h, customslaw34_cut.j1, if_neg (by simp)]
      simp
  | succ m ih =>
    intro i out k hi hk ho
    obtain ⟨k, rfl⟩ : ∃ j, k = j + 2 := ⟨k - 2, by omega⟩
    have h : i < l.length := by omega
    have h2 : i < (l.take 16).length := by rw [List.length_take]; omega
    have hf : decide ((i : Int) < 16) = true := by rw [decide_eq_true_eq]; omega
    rw [customslaw34_cut.l0, if_pos (by omega), customslaw34_cut.j1, if_pos hf, if_pos (by omega), if_pos (by omega), rdL1_ge l i h, List.drop_eq_getElem_cons h2, List.getElem_take, List.map_cons]
    have hw : wrap64 ((i : Int) + 1) = ((i + 1 : Nat) : Int) := by rw [wrapS _ (by omega) (by omega)]; omega
    rw [hw]
    have key : customslaw34_cut.l0 k l (out ++ [l[i].take 300]) ((i + 1 : Nat) : Int) = some (out ++ l[i].take 300 :: ((l.take 16).drop (i + 1)).map fun p => p.take 300) := by
      rw [ih (i + 1) _ k (by omega) (by omega) (by simp [ho]), List.append_assoc]
      rfl
    by_cases h3 : (l[i].length : Int) > 300
    · rw [if_pos h3, if_pos (by omega), if_pos (by omega)]
      exact key
    · rw [if_neg h3, if_pos (by omega)]
      rw [List.take_of_length_le (show l[i].length ≤ 300 by omega)] at key ⊢
      exact key

theorem cut_ok (l : List (List Int)) (k : Nat) (hk : 40 ≤ k) : customslaw34_cut.f k l = some (cutS l) := by
  unfold customslaw34_cut.f
  have := cut_loop l (min l.length 16) 0 [] k (by omega) (by omega) rfl
  exact this

theorem cut_length (l : List (List Int)) : (cutS l).length ≤ 16 := by unfold cutS; rw [List.length_map, List.length_take]; omega
theorem cut_each (l : List (List Int)) (h : ∀ x ∈ l, Bytes x) : ∀ p ∈ cutS l, p.length ≤ 300 ∧ Bytes p := by
  intro p hp
  obtain ⟨q, hq, rfl⟩ := List.mem_map.1 hp
  refine ⟨by rw [List.length_take]; omega, (h q (List.mem_of_mem_take hq)).take 300⟩

theorem awake_60 : customslaw34_awake.f 60 = some true := by kernel_rfl
theorem awake_true (k : Nat) (hk : 60 ≤ k) : customslaw34_awake.f k = some true := up customslaw34_awake.mono awake_60 hk

theorem rdT_ge (l : List S43) (i : Nat) (h : i < l.length) : rd_T43 l (i : Int) = l[i] := by
  unfold rd_T43
  rw [Int.toNat_natCast, List.getD_eq_getElem?_getD, List.getElem?_eq_getElem h]
  rfl

theorem joined_ok (a b : List Int) (h : a.length + b.length ≤ 281474976710656) : disk_joined.f a b = some (a ++ b) := by
  unfold disk_joined.f XJoined.joinedF
  rw [if_pos h]

theorem read_ok (a b : List Int) (h : a.length + b.length ≤ 281474976710656) : disk_Read.f a b = some (a ++ b) := by
  unfold disk_Read.f
  rw [joined_ok a b h]
  rfl

theorem sync_ok (a b : List Int) (h : a.length + b.length ≤ 281474976710656) : disk_Sync.f a b = some (a ++ b, []) := by
  unfold disk_Sync.f
  rw [read_ok a b h]
  rfl

theorem put_ok (kind : Int) (s q p : List Int) (k : Nat) (g : GoodF kind p) (hb : Bytes p) (hs : s.length + q.length + (p.length + 9) ≤ 1000000) (hk : p.length + 6 ≤ k) : journal_Put.f k s q kind p = some (s, q ++ frame kind p, 0) := by
  have hl := frame_length kind p
  unfold journal_Put.f
  rw [encode_ok kind p k g hb hk]
  simp only [bindS, if_true]
  unfold disk_Write.f
  rw [wrapS ((s.length : Int) + (q.length : Int)) (by omega) (by omega), wrapS _ (by omega) (by omega), if_neg (by omega), joined_ok _ _ (by simp; omega), joined_ok _ _ (by omega)]
  simp only [bindS, List.append_nil]

theorem append_ok (s q p : List Int) (k : Nat) (hp : p.length ≤ 60000) (hb : Bytes p) (hs : s.length + q.length + (p.length + 9) ≤ 1000000) (hk : p.length + 6 ≤ k) : journal_Append.f k s q p = some (s ++ (q ++ frame 1 p), [], 0) := by
  have hl := frame_length 1 p
  unfold journal_Append.f
  rw [put_ok 1 s q p k ⟨Or.inl rfl, hp⟩ hb hs hk]
  simp only [bindS, if_true]
  rw [sync_ok _ _ (by rw [List.length_append]; omega)]
  simp only [bindS]

def foldO : List S43 → List Int × List (List Int) × Bool → List Int × List (List Int) × Bool
  | [], t => t
  | x :: xs, t => if x.f0 = 2 then foldO xs (x.f1, [], true) else foldO xs (t.1, t.2.1 ++ [x.f1], t.2.2)

theorem foldO_append : ∀ (a b : List S43) (t : List Int × List (List Int) × Bool), foldO (a ++ b) t = foldO b (foldO a t)
  | [], _, _ => rfl
  | x :: xs, b, t => by
    rw [List.cons_append, foldO, foldO]
    split
    · exact foldO_append xs b _
    · exact foldO_append xs b _

def recs (l : List (List Int)) : List S43 := l.map fun p => (⟨1, p⟩ : S43)

theorem recs_append (a b : List (List Int)) : recs (a ++ b) = recs a ++ recs b := List.map_append

theorem foldO_recs : ∀ (l : List (List Int)) (s : List Int) (r : List (List Int)) (f : Bool), foldO (recs l) (s, r, f) = (s, r ++ l, f)
  | [], s, r, f => by simp [recs, foldO]
  | p :: ps, s, r, f => by
    have := foldO_recs ps s (r ++ [p]) f
    unfold recs at this ⊢
    rw [List.map_cons, foldO, if_neg (by simp), this, List.append_assoc]
    rfl

theorem recs_fine (l : List (List Int)) (h : ∀ p ∈ l, p.length ≤ 300 ∧ Bytes p) : Fine (recs l) := by
  intro x hx
  obtain ⟨p, hp, rfl⟩ := List.mem_map.1 hx
  have := h p hp
  exact ⟨⟨Or.inl rfl, show p.length ≤ 60000 by omega⟩, this.2⟩

theorem recs_short (l : List (List Int)) (h : ∀ p ∈ l, p.length ≤ 300 ∧ Bytes p) : (stream (recs l)).length ≤ l.length * 309 := by
  induction l with
  | nil => simp [recs, stream]
  | cons p ps ih =>
    have h1 := (h p (List.mem_cons_self ..)).1
    have h2 := ih (fun q hq => h q (List.mem_cons_of_mem _ hq))
    unfold recs at h2 ⊢
    rw [List.map_cons, stream, List.length_append, frame_length, List.length_cons]
    show p.length + 9 + _ ≤ _
    omega

theorem open_loop (fs : List S43) (a b : List Int) (hf : fs.length ≤ 4398046511104) : ∀ (m i : Nat) (s : List Int) (r : List (List Int)) (f : Bool) (k : Nat), i + m = fs.length → m < k → r.length ≤ i →
    journal_Open.l0 k s r f fs (fs.length : Int) (i : Int) a b = some (a, b, (foldO (fs.drop i) (s, r, f)).1, (foldO (fs.drop i) (s, r, f)).2.2, (foldO (fs.drop i) (s, r, f)).2.1) := by
  intro m
  induction m with
  | zero =>
    intro i s r f k hi hk hr
    obtain ⟨k, rfl⟩ : ∃ j, k = j + 1 := ⟨k - 1, by omega⟩
    rw [journal_Open.l0, if_neg (by omega), List.drop_eq_nil_of_le (by omega)]
    rfl
  | succ m ih =>
    intro i s r f k hi hk hr
    obtain ⟨k, rfl⟩ : ∃ j, k = j + 1 := ⟨k - 1, by omega⟩
    have hlt : i < fs.length := by omega
    have hw : wrap64 ((i : Int) + 1) = ((i + 1 : Nat) : Int) := by rw [wrapS _ (by omega) (by omega)]; omega
    rw [journal_Open.l0, if_pos (by omega), if_pos (by omega), if_pos (by omega), rdT_ge fs i hlt, hw, List.drop_eq_getElem_cons hlt]
    by_cases h2 : fs[i].f0 = 2
    · rw [if_pos h2, ih (i + 1) _ _ _ k (by omega) (by omega) (by simp), foldO, if_pos h2]
    · rw [if_neg h2, if_pos (by omega), ih (i + 1) _ _ _ k (by omega) (by omega) (by simp; omega), foldO, if_neg h2]

theorem trunc_ok (s q : List Int) (n : Nat) (hn : n ≤ s.length + q.length) (hs : s.length + q.length ≤ 1048576) : disk_Truncate.f s q (n : Int) = some ((s ++ q).take n, [], 0) := by
  unfold disk_Truncate.f
  rw [if_neg (by omega), wrapS _ (by omega) (by omega), if_neg (by omega), read_ok _ _ (by omega)]
  simp only [bindS]
  rw [if_pos (by omega), if_pos (by rw [List.length_append]; omega), Int.toNat_natCast]

theorem open_ok (s q z : List Int) (fs : List S43) (hf : Fine fs) (hz : Stops z) (hd : s ++ q = stream fs ++ z) (hs : s.length + q.length ≤ 1048576) (hl : fs.length ≤ 100000) (k : Nat) (hk : 60022 + 2 * fs.length ≤ k) :
    journal_Open.f k s q = some (stream fs, [], (foldO fs ([], [], false)).1, (foldO fs ([], [], false)).2.2, (foldO fs ([], [], false)).2.1) := by
  have hlen := congrArg List.length hd
  rw [List.length_append, List.length_append] at hlen
  unfold journal_Open.f
  rw [read_ok _ _ (by omega)]
  simp only [bindS]
  rw [scan_ok (s ++ q) (by rw [List.length_append]; omega) fs z hz hf hd (by omega) k hk]
  simp only [bindS]
  rw [trunc_ok s q _ (by omega) hs]
  simp only [bindS]
  rw [hd, List.take_left]
  have := open_loop fs (stream fs) [] (by omega) fs.length 0 [] [] false k (by omega) (by omega) (by simp)
  rw [List.drop_zero] at this
  exact this

theorem same_recs (l : List (List Int)) (hl : l.length ≤ 4398046511104) : ∀ (m i : Nat) (k : Nat), i + m = l.length → m < k → customsref33_SameRecords.l0 k l l (i : Int) = some true := by
  intro m
  induction m with
  | zero =>
    intro i k hi hk
    obtain ⟨k, rfl⟩ : ∃ j, k = j + 1 := ⟨k - 1, by omega⟩
    rw [customsref33_SameRecords.l0, if_neg (by omega)]
  | succ m ih =>
    intro i k hi hk
    obtain ⟨k, rfl⟩ : ∃ j, k = j + 1 := ⟨k - 1, by omega⟩
    have hw : wrap64 ((i : Int) + 1) = ((i + 1 : Nat) : Int) := by rw [wrapS _ (by omega) (by omega)]; omega
    rw [customsref33_SameRecords.l0, if_pos (by omega), if_pos (by omega), if_pos (by omega), same_bytes, hw, ih (i + 1) k (by omega) (by omega)]
    simp only [bindS, if_true]

theorem same_recs_ok (l : List (List Int)) (hl : l.length ≤ 4398046511104) (k : Nat) (hk : l.length < k) : customsref33_SameRecords.f k l l = some true := by
  unfold customsref33_SameRecords.f
  rw [if_pos rfl]
  exact same_recs l hl l.length 0 k (by omega) hk

theorem within_ok (a m : Int) (h0 : 0 < m) (h1 : m ≤ 4611686018427387904) : ∃ t : Nat, customsmade_Within.f a m = some (t : Int) ∧ (t : Int) < m := by
  unfold customsmade_Within.f
  rw [if_neg (by omega)]
  have h2 := Int.tmod_lt_of_pos a h0
  have h3 : -m < Int.tmod a m := by
    have := Int.tmod_lt_of_pos (-a) h0
    rw [Int.neg_tmod] at this
    omega
  rw [wrapS _ (by omega) (by omega)]
  have h4 := Int.tmod_nonneg (a := Int.tmod a m + m) m (by omega)
  have h5 := Int.tmod_lt_of_pos (Int.tmod a m + m) h0
  refine ⟨(Int.tmod (Int.tmod a m + m) m).toNat, ?_, ?_⟩
  · rw [Int.toNat_of_nonneg h4]
  · rw [Int.toNat_of_nonneg h4]; exact h5

theorem crash_ok (s q : List Int) (t : Nat) (hs : s.length + q.length ≤ 1048576) : disk_Crash.f s q (t : Int) = some (s ++ q.take t, []) := by
  unfold disk_Crash.f
  have e : mn (mx (t : Int) 0) (q.length : Int) = ((min t q.length : Nat) : Int) := by unfold mn mx; split <;> split <;> omega
  have e2 : q.take (min t q.length) = q.take t := by
    by_cases h : t ≤ q.length
    · rw [Nat.min_eq_left h]
    · rw [Nat.min_eq_right (by omega), List.take_of_length_le (Nat.le_refl _), List.take_of_length_le (by omega)]
  rw [e, if_pos (by omega), if_pos (by omega), Int.toNat_natCast, e2, joined_ok _ _ (by rw [List.length_take]; omega)]
  simp only [bindS]

theorem torn : ∀ (fs : List S43) (t : Nat), Fine fs → ∃ q z, q ≤ fs.length ∧ (stream fs).take t = stream (fs.take q) ++ z ∧ Stops z
  | [], t, _ => ⟨0, [], Nat.le_refl _, by simp [stream], stops_short (by simp)⟩
  | x :: xs, t, hf => by
    have hx := hf x (List.mem_cons_self ..)
    by_cases h : t < x.f1.length + 9
    · refine ⟨0, (frame x.f0 x.f1).take t, by simp, ?_, ?_⟩
      · rw [stream, List.take_append, frame_length]
        have e : t - (x.f1.length + 9) = 0 := by omega
        rw [e]
        simp [stream]
      · refine stops_torn (z' := (frame x.f0 x.f1).drop t) hx.1 (List.take_append_drop t _) ?_
        intro e
        have := congrArg List.length e
        rw [List.length_drop, frame_length] at this
        simp at this
        omega
    · obtain ⟨q, z, h1, h2, h3⟩ := torn xs (t - (x.f1.length + 9)) (fun y hy => hf y (List.mem_cons_of_mem _ hy))
      refine ⟨q + 1, z, by simp; omega, ?_, h3⟩
      rw [stream, List.take_append, frame_length, h2, List.take_of_length_le (by rw [frame_length]; omega), List.take_succ_cons, stream, List.append_assoc]

theorem loop0 (x0 x1 : List (List Int)) (x2 : Int) (h16 : x0.length ≤ 16) (he : ∀ p ∈ x0, p.length ≤ 300 ∧ Bytes p) : ∀ (m i : Nat) (a : List Int) (k : Nat), i + m = x0.length → 400 ≤ k → a.length ≤ i * 309 →
    customslaw34_JournalCrash.l0 (k + m + 1) x0 x1 x2 (i : Int) a [] = customslaw34_JournalCrash.l1 k x0 x1 x2 0 (a ++ stream (recs (x0.drop i))) [] := by
  intro m
  induction m with
  | zero =>
    intro i a k hi hk ha
    rw [customslaw34_JournalCrash.l0, if_neg (by omega), List.drop_eq_nil_of_le (by omega)]
    simp only [recs, List.map_nil, stream, List.append_nil]
  | succ m ih =>
    intro i a k hi hk ha
    have hlt : i < x0.length := by omega
    have hp := he x0[i] (List.getElem_mem hlt)
    have hw : wrap64 ((i : Int) + 1) = ((i + 1 : Nat) : Int) := by rw [wrapS _ (by omega) (by omega)]; omega
    have e : k + (m + 1) + 1 = (k + m + 1) + 1 := by omega
    rw [e, customslaw34_JournalCrash.l0, if_pos (by omega), if_pos (by omega), rdL1_ge x0 i hlt, append_ok _ _ _ _ (by omega) hp.2 (by simp; omega) (by omega)]
    simp only [bindS, if_true]
    rw [hw, ih (i + 1) _ k (by omega) hk (by simp only [List.length_append, frame_length, List.length_nil]; omega), List.drop_eq_getElem_cons hlt]
    simp only [recs, List.map_cons, stream, List.nil_append, List.append_assoc]

theorem loop1 (x0 x1 : List (List Int)) (x2 : Int) (h16 : x1.length ≤ 16) (he : ∀ p ∈ x1, p.length ≤ 300 ∧ Bytes p) (a : List Int) (ha : a.length ≤ 10000) : ∀ (m i : Nat) (b : List Int) (k : Nat), i + m = x1.length → 400 ≤ k → b.length ≤ i * 309 →
    customslaw34_JournalCrash.l1 (k + m) x0 x1 x2 (i : Int) a b = customslaw34_JournalCrash.l1 k x0 x1 x2 (x1.length : Int) a (b ++ stream (recs (x1.drop i))) := by
  intro m
  induction m with
  | zero =>
    intro i b k hi hk hb
    have e : i = x1.length := by omega
    rw [List.drop_eq_nil_of_le (by omega), e]
    simp only [recs, List.map_nil, stream, List.append_nil, Nat.add_zero]
  | succ m ih =>
    intro i b k hi hk hb
    have hlt : i < x1.length := by omega
    have hp := he x1[i] (List.getElem_mem hlt)
    have hw : wrap64 ((i : Int) + 1) = ((i + 1 : Nat) : Int) := by rw [wrapS _ (by omega) (by omega)]; omega
    have e : k + (m + 1) = (k + m) + 1 := by omega
    rw [e, customslaw34_JournalCrash.l1, if_pos (by omega), if_pos (by omega), rdL1_ge x1 i hlt, put_ok 1 _ _ _ _ ⟨Or.inl rfl, by omega⟩ hp.2 (by omega) (by omega)]
    simp only [bindS, if_true]
    rw [hw, ih (i + 1) _ k (by omega) hk (by simp only [List.length_append, frame_length]; omega), List.drop_eq_getElem_cons hlt]
    simp only [recs, List.map_cons, stream, List.append_assoc]

theorem more_bytes : Bytes [109, 111, 114, 101] := by
  intro x hx
  simp only [List.mem_cons, List.not_mem_nil, or_false] at hx
  omega

theorem join2 (r : List (List Int)) (hr : ∀ p ∈ r, p.length ≤ 300 ∧ Bytes p) (h32 : r.length ≤ 32) (k : Nat) (hk : 61000 ≤ k) : customslaw34_JournalCrash.j2 (k + 1) r false (stream (recs r)) [] = some true := by
  have hs := recs_short r hr
  rw [customslaw34_JournalCrash.j2, if_neg (by simp), append_ok _ _ _ _ (by simp) more_bytes (by simp; omega) (by simp; omega)]
  simp only [bindS, List.nil_append]
  have hr2 : ∀ p ∈ r ++ [[109, 111, 114, 101]], p.length ≤ 300 ∧ Bytes p := by
    intro p hp
    rcases List.mem_append.1 hp with h | h
    · exact hr p h
    · rw [List.mem_singleton.1 h]
      exact ⟨by simp, more_bytes⟩
  have e : stream (recs r) ++ frame 1 [109, 111, 114, 101] ++ [] = stream (recs (r ++ [[109, 111, 114, 101]])) ++ [] := by
    rw [recs_append, stream_append]
    simp [recs, stream]
  rw [open_ok _ _ [] (recs (r ++ [[109, 111, 114, 101]])) (recs_fine _ hr2) (stops_short (by simp)) e (by simp only [List.length_append, frame_length, List.length_nil, List.length_cons]; omega) (by simp [recs]; omega) k (by simp [recs]; omega), foldO_recs]
  simp only [bindS, List.nil_append, List.length_nil, Nat.zero_add, if_true]
  rw [if_pos (by omega), if_pos (by omega), same_recs_ok _ (by simp; omega) k (by simp; omega), awake_true k (by omega)]
  simp only [bindS, if_true]

theorem last (x0 x1 : List (List Int)) (keep : Int) (h0 : x0.length ≤ 16) (h1 : x1.length ≤ 16) (e0 : ∀ p ∈ x0, p.length ≤ 300 ∧ Bytes p) (e1 : ∀ p ∈ x1, p.length ≤ 300 ∧ Bytes p) (k : Nat) (hk : 61000 ≤ k) :
    customslaw34_JournalCrash.l1 (k + 1 + 1) x0 x1 keep (x1.length : Int) (stream (recs x0)) (stream (recs x1)) = some true := by
  have s0 := recs_short x0 e0
  have s1 := recs_short x1 e1
  obtain ⟨j, hj, _⟩ := within_ok keep 5000 (by omega) (by omega)
  obtain ⟨q, z, hq, hz1, hz2⟩ := torn (recs x1) j (recs_fine x1 e1)
  have hq2 : q ≤ x1.length := by simpa [recs] using hq
  have hq3 : (recs x1).take q = recs (x1.take q) := by unfold recs; rw [List.map_take]
  rw [hq3] at hz1
  have er : ∀ p ∈ x0 ++ x1.take q, p.length ≤ 300 ∧ Bytes p := by
    intro p hp
    rcases List.mem_append.1 hp with h | h
    · exact e0 p h
    · exact e1 p (List.mem_of_mem_take h)
  have hl : (x0 ++ x1.take q).length = x0.length + q := by rw [List.length_append, List.length_take]; omega
  have hd : stream (recs x0) ++ (stream (recs x1)).take j ++ [] = stream (recs (x0 ++ x1.take q)) ++ z := by rw [hz1, recs_append, stream_append]; simp
  have ht : (x0 ++ x1).take (x0.length + q) = x0 ++ x1.take q := by rw [List.take_length_add_append]
  rw [customslaw34_JournalCrash.l1, if_neg (by omega)]
  simp only [bindS, List.nil_append, List.length_nil, Nat.zero_add]
  rw [if_pos (by omega), if_pos (by omega), hj]
  simp only [bindS]
  rw [crash_ok _ _ _ (by omega)]
  simp only [bindS]
  rw [open_ok _ _ z _ (recs_fine _ er) hz2 hd (by simp only [List.length_append, List.length_take, List.length_nil]; omega) (by simp only [recs, List.length_map]; omega) (k + 1) (by simp only [recs, List.length_map]; omega), foldO_recs]
  simp only [bindS, List.nil_append, hl]
  rw [if_neg (by simp), if_neg (by omega), if_neg (by rw [List.length_append]; omega), if_pos (by omega), if_pos (by rw [List.length_append]; omega), Int.toNat_natCast, ht, same_recs_ok _ (by omega) (k + 1) (by omega)]
  simp only [bindS, Bool.not_true]
  exact join2 _ er (by omega) k hk

theorem pure (l0 : List (List Int)) (hw0 : ∀ x ∈ l0, ∀ z ∈ x, (Lit.int .u8 z).wf = true) (l1 : List (List Int)) (hw1 : ∀ x ∈ l1, ∀ z ∈ x, (Lit.int .u8 z).wf = true) (a2 : Int) (_w2 : (Lit.int .i64 a2).wf = true) :
    ∃ k, customslaw34_JournalCrash.f k l0 l1 a2 = some true := by
  have h0 := cut_each l0 (fun x hx => bytes_of (hw0 x hx))
  have h1 := cut_each l1 (fun x hx => bytes_of (hw1 x hx))
  have n0 := cut_length l0
  have n1 := cut_length l1
  have s0 := recs_short _ h0
  refine ⟨62000 + 1 + 1 + (cutS l1).length + (cutS l0).length + 1, ?_⟩
  unfold customslaw34_JournalCrash.f
  rw [cut_ok _ _ (by omega), cut_ok _ _ (by omega)]
  simp only [bindS]
  refine (loop0 (cutS l0) (cutS l1) a2 n0 h0 (cutS l0).length 0 [] (62000 + 1 + 1 + (cutS l1).length) (by omega) (by omega) (by simp)).trans ?_
  rw [List.drop_zero, List.nil_append]
  refine (loop1 (cutS l0) (cutS l1) a2 n1 h1 _ (by omega) (cutS l1).length 0 [] (62000 + 1 + 1) (by omega) (by omega) (by simp)).trans ?_
  rw [List.drop_zero, List.nil_append]
  exact last (cutS l0) (cutS l1) a2 n0 n1 h0 h1 62000 (by omega)

end Go.Proofs.Ythnlepmfjhhgfaa.PureJournalCrash
