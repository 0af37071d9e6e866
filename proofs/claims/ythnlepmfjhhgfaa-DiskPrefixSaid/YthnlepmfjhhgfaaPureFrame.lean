/-
  What a frame of the journal is, in plain Lean: no program in sight.
-/
import Derived.Test.YthnlepmfjhhgfaaWMore
import Derived.KernelRfl
import Derived.IntWalk
namespace Go.Proofs.Ythnlepmfjhhgfaa.PureFrame
open Go.RowKit Go.Proofs.YthnlepmfjhhgfaaW.PrintWords Go.Proofs.YthnlepmfjhhgfaaW.PrintLast Go.Proofs.YthnlepmfjhhgfaaW.PrintMore

theorem wrapS (x : Int) (h1 : -9223372036854775808 ≤ x) (h2 : x < 9223372036854775808) : wrap64 x = x := by unfold wrap64; omega

/-- As Option.bind_some, but not told by computing: simp then leaves a step that the kernel need not compute. -/
theorem bindS {α β : Type} (a : α) (f : α → Option β) : (some a).bind f = f a := (Option.bind_some a f).trans rfl

def Bytes (l : List Int) : Prop := ∀ x ∈ l, 0 ≤ x ∧ x ≤ 255

theorem bytes_of {l : List Int} (h : ∀ x ∈ l, (Lit.int .u8 x).wf = true) : Bytes l := by
  intro x hx
  have := h x hx
  simp only [Lit.wf, Bool.and_eq_true, decide_eq_true_eq] at this
  exact this

theorem Bytes.drop {l : List Int} (h : Bytes l) (n : Nat) : Bytes (l.drop n) := fun x hx => h x (List.mem_of_mem_drop hx)
theorem Bytes.take {l : List Int} (h : Bytes l) (n : Nat) : Bytes (l.take n) := fun x hx => h x (List.mem_of_mem_take hx)
theorem Bytes.append {l m : List Int} (h : Bytes l) (g : Bytes m) : Bytes (l ++ m) := by
  intro x hx
  rcases List.mem_append.1 hx with e | e
  · exact h x e
  · exact g x e
theorem Bytes.left {l m : List Int} (h : Bytes (l ++ m)) : Bytes l := fun x hx => h x (List.mem_append_left _ hx)
theorem Bytes.right {l m : List Int} (h : Bytes (l ++ m)) : Bytes m := fun x hx => h x (List.mem_append_right _ hx)
theorem Bytes.nil : Bytes [] := fun _ h => by cases h

theorem rd_ge (l : List Int) (i : Nat) (h : i < l.length) : rd l (i : Int) = l[i] := by
  unfold rd
  rw [Int.toNat_natCast, List.getD_eq_getElem?_getD, List.getElem?_eq_getElem h]
  rfl

theorem or_byte (n x : Int) (h0 : 0 ≤ n) (h1 : n < 16777216) (x0 : 0 ≤ x) (x1 : x ≤ 255) : Go.bits .or .i64 (wrap64 (n * 256)) (wrap64 x) = n * 256 + x := by
  rw [wrapS _ (by omega) (by omega), wrapS _ (by omega) (by omega)]
  obtain ⟨m, rfl⟩ := Int.eq_ofNat_of_zero_le h0
  obtain ⟨y, rfl⟩ := Int.eq_ofNat_of_zero_le x0
  have e : (m : Int) * 256 = ((m * 256 : Nat) : Int) := by omega
  have hor : m * 256 ||| y = m * 256 + y := by
    have := Nat.two_pow_add_eq_or_of_lt (i := 8) (b := y) (by omega) m
    have e2 : (2 : Nat) ^ 8 * m = m * 256 := by omega
    rw [e2] at this
    exact this.symm
  rw [e]
  have e3 : (BitVec.ofInt 64 ((m * 256 : Nat) : Int) ||| BitVec.ofInt 64 (y : Int)).toNat = m * 256 + y := by
    rw [BitVec.ofInt_natCast, BitVec.ofInt_natCast, BitVec.toNat_or, BitVec.toNat_ofNat, BitVec.toNat_ofNat, Nat.mod_eq_of_lt (by omega), Nat.mod_eq_of_lt (by omega), hor]
  show IntKind.wrap .i64 (((BitVec.ofInt 64 ((m * 256 : Nat) : Int) ||| BitVec.ofInt 64 (y : Int)).toNat : Nat) : Int) = _
  rw [e3]
  have e4 : IntKind.wrap .i64 ((m * 256 + y : Nat) : Int) = wrap64 ((m * 256 + y : Nat) : Int) := Go.IntWalk.i64_left _
  rw [e4, wrapS _ (by omega) (by omega)]
  omega

def cksP : List Int → Int → Int → Int × Int
  | [], a, b => (a, b)
  | x :: xs, a, b => cksP xs ((a + x) % 65521) ((b + (a + x) % 65521) % 65521)
def cks (l : List Int) : Int := (cksP l 1 0).2 * 65536 + (cksP l 1 0).1

theorem cksP_range : ∀ (l : List Int) (a b : Int), 0 ≤ a → a < 65521 → 0 ≤ b → b < 65521 → 0 ≤ (cksP l a b).1 ∧ (cksP l a b).1 < 65521 ∧ 0 ≤ (cksP l a b).2 ∧ (cksP l a b).2 < 65521
  | [], _, _, h1, h2, h3, h4 => ⟨h1, h2, h3, h4⟩
  | _ :: xs, _, _, _, _, _, _ => cksP_range xs _ _ (by omega) (by omega) (by omega) (by omega)
theorem cks_range (l : List Int) : 0 ≤ cks l ∧ cks l < 4294967296 := by
  have := cksP_range l 1 0 (by omega) (by omega) (by omega) (by omega)
  unfold cks
  omega

def head (n kind : Int) : List Int := [n / 256 % 256, n % 256, (65535 - n) / 256 % 256, (65535 - n) % 256, kind % 256]
def tail4 (t : Int) : List Int := [t / 16777216 % 256, t / 65536 % 256, t / 256 % 256, t % 256]
def body (kind : Int) (p : List Int) : List Int := head p.length kind ++ p
def frame (kind : Int) (p : List Int) : List Int := body kind p ++ tail4 (cks (body kind p))
def GoodF (kind : Int) (p : List Int) : Prop := (kind = 1 ∨ kind = 2) ∧ p.length ≤ 60000

theorem body_length (kind : Int) (p : List Int) : (body kind p).length = p.length + 5 := by unfold body head; simp
theorem frame_length (kind : Int) (p : List Int) : (frame kind p).length = p.length + 9 := by unfold frame; rw [List.length_append, body_length]; unfold tail4; simp
theorem head_bytes (n kind : Int) : Bytes (head n kind) := by
  intro x hx
  unfold head at hx
  simp only [List.mem_cons, List.not_mem_nil, or_false] at hx
  omega
theorem tail_bytes (t : Int) : Bytes (tail4 t) := by
  intro x hx
  unfold tail4 at hx
  simp only [List.mem_cons, List.not_mem_nil, or_false] at hx
  omega
theorem body_bytes {kind : Int} {p : List Int} (h : Bytes p) : Bytes (body kind p) := (head_bytes _ _).append h
theorem frame_bytes {kind : Int} {p : List Int} (h : Bytes p) : Bytes (frame kind p) := (body_bytes h).append (tail_bytes _)

/-- A list begins with at most one frame. -/
theorem frame_one {k k' : Int} {p p' z z' : List Int} (g : GoodF k p) (g' : GoodF k' p') (h : frame k p ++ z = frame k' p' ++ z') : k = k' ∧ p = p' ∧ z = z' := by
  have h2 := h
  unfold frame body head at h2
  simp only [List.cons_append, List.nil_append, List.append_assoc, List.cons.injEq] at h2
  have g1 := g.1; have g2 := g.2; have g3 := g'.1; have g4 := g'.2
  have hn : p.length = p'.length := by omega
  have hk : k = k' := by omega
  have h3 := List.append_inj h2.2.2.2.2.2 hn
  have hp : p = p' := h3.1
  subst hk; subst hp
  exact ⟨rfl, rfl, List.append_cancel_left h⟩

theorem toList_loop (s : ByteArray) : ∀ (m i : Nat) (r : List UInt8), i + m = s.size → ByteArray.toList.loop s i r = r.reverse ++ s.data.toList.drop i := by
  intro m
  induction m with
  | zero =>
    intro i r h
    unfold ByteArray.toList.loop
    rw [if_neg (by omega), List.drop_eq_nil_of_le (by simp only [Array.length_toList]; show s.size ≤ i; omega), List.append_nil]
  | succ m ih =>
    intro i r h
    unfold ByteArray.toList.loop
    rw [if_pos (by omega), ih (i + 1) _ (by omega)]
    have hi : i < s.data.toList.length := by simp only [Array.length_toList]; show i < s.size; omega
    rw [List.drop_eq_getElem_cons hi, List.reverse_cons, List.append_assoc]
    have e : s.get! i = s.data.toList[i] := by
      unfold ByteArray.get!
      rw [Array.getElem_toList]
      exact getElem!_pos s.data i (by simpa using hi)
    rw [e]
    rfl

theorem toList_eq (s : ByteArray) : s.toList = s.data.toList := by
  unfold ByteArray.toList
  rw [toList_loop s s.size 0 [] (by omega)]
  rfl

theorem strOf_inj : ∀ {l m : List Int}, Bytes l → Bytes m → (strOfNums l).toList = (strOfNums m).toList → l = m := by
  have key : ∀ {l m : List Int}, Bytes l → Bytes m → (l.map fun n => UInt8.ofNat n.toNat) = (m.map fun n => UInt8.ofNat n.toNat) → l = m := by
    intro l
    induction l with
    | nil => intro m _ _ h; cases m with | nil => rfl | cons _ _ => simp at h
    | cons x xs ih =>
      intro m hl hm h
      cases m with
      | nil => simp at h
      | cons y ys =>
        simp only [List.map_cons, List.cons.injEq] at h
        have hx := hl x (List.mem_cons_self ..)
        have hy := hm y (List.mem_cons_self ..)
        have e := congrArg UInt8.toNat h.1
        simp only [UInt8.toNat_ofNat'] at e
        have e2 : x = y := by omega
        rw [e2, ih (fun z hz => hl z (List.mem_cons_of_mem _ hz)) (fun z hz => hm z (List.mem_cons_of_mem _ hz)) h.2]
  intro l m hl hm h
  rw [toList_eq, toList_eq] at h
  exact key hl hm h
end Go.Proofs.Ythnlepmfjhhgfaa.PureFrame
