/-
  Arguments opened: a slice of whole numbers, a slice of such slices, of bools; what they read as, their lengths' bounds. No condition beyond the reading itself.
-/
import Derived.Test.YtlhmgigjbeefbaaRows
import Derived.Test.YtlhmgigjbeefbaaWMore
import Derived.Test.YtlhmgigjbeefbaaWSized
import Derived.ChangeSlices
import Derived.ChangeArms
import Derived.Lib.SmallJoins
namespace Go.Proofs.Ytlhmgigjbeefbaa.XOpen
open Go.RowKit Go.Proofs.YtlhmgigjbeefbaaW.PrintWords Go.Proofs.YtlhmgigjbeefbaaW.PrintLast Go.Proofs.YtlhmgigjbeefbaaW.PrintMore
open Go.ChangeShapes Go.WideShapes

section
variable {H : Type} {enc : TypeId × Value → H} {P : Program} {W : World} {base n : Nat} {spare : Nat → Bool} {held : Bool}

theorem bulk_lits (k : IntKind) (zs : List Int) : Rows.uptoBulkAll (H := H) (lits k zs) = zs.length := by
  induction zs with
  | nil => rfl
  | cons z zs ih => simp only [lits, List.map_cons, Rows.uptoBulkAll, Rows.uptoBulk, List.length_cons] at ih ⊢; omega

theorem C_of_row {k : IntKind} {a : Addr} {len : Nat} {zs : List Int} (hl : len ≤ zs.length) (hm : len ≤ 9223372036854775807) (hcell : ∀ i, i < zs.length → W.cell? (a.add i) = some (.int k (zs.getD i 0))) :
    Kd.C (Kd.int k) W (some a) (zs.take len).length (zs.take len) := by
  refine Kd.C_of_reads (d := (0 : Int)) ⟨rfl, by rw [List.length_take]; omega, fun _ => ⟨a, rfl, fun j hj => ?_⟩⟩
  rw [List.length_take] at hj
  rw [hcell j (by omega)]
  simp [List.getD_eq_getElem?_getD, show j < len from by omega]

theorem open_nums {t e : TypeId} {k : IntKind} {v : Value} {y : DataW H × List MemPlace} (ht : P.underlying t = some (.slice e)) (he : P.underlying e = some (.int k)) (hc : P.cellsOf e = 1)
    (h : DataW.trod enc P W base spare held n t [v] = some y) :
    ∃ (A : Option Addr) (c : Nat) (l : List Int), v = .slice A l.length c ∧ Kd.C (Kd.int k) W A l.length l ∧ l.length ≤ c ∧ (∀ x ∈ l, (Lit.int k x).wf = true) ∧
      (∀ R, (∀ z ∈ DataW.weights P t y.1, z ≤ R) → l.length * P.bytesOf e ≤ R) ∧ l.length ≤ Rows.uptoBulk y.1 := by
  rcases open_ints ht he hc h with ⟨hcs, rfl⟩ | ⟨a, len, cap, zs, hcs, _, hl, hm, hz, rfl, hcell, hwz⟩
  · obtain rfl : v = .slice none 0 0 := by simpa using hcs
    exact ⟨none, 0, [], rfl, Kd.C_nil _ _, Nat.le_refl _, by simp, by simp, by simp⟩
  · obtain rfl : v = .slice (some a) len cap := by simpa using hcs
    have hlz : len ≤ zs.length := by rw [hz]; split <;> omega
    have hlt : (zs.take len).length = len := by rw [List.length_take]; omega
    refine ⟨some a, cap, zs.take len, by rw [hlt], C_of_row hlz (by unfold maxLen at hm; omega) hcell, by omega, fun x hx => hwz x (List.mem_of_mem_take hx), ?_, ?_⟩
    · intro R hR
      have := hR ((lits (H := H) k (zs.take len)).length * P.bytesOf e + (lits (H := H) k (zs.drop len)).length * P.bytesOf e) (by simp only [DataW.weights, ht]; rw [← Nat.add_mul]; exact List.mem_cons_self)
      simp only [lits, List.length_map] at this
      omega
    · simp only [Rows.uptoBulk, bulk_lits]
      omega

theorem cells_one {a : Addr} {cs : List Value} (h : W.cells? base a 1 = some cs) : ∃ u, cs = [u] ∧ W.cell? a = some u := by
  unfold World.cells? at h
  split at h
  · have ha : a.add 0 = a := by simp [Addr.add]
    simp only [List.range_one, List.mapM_cons, List.mapM_nil, ha] at h
    cases hc : W.cell? a with
    | none => rw [hc] at h; simp at h
    | some u => rw [hc] at h; simp at h; exact ⟨u, h.symm, rfl⟩
  · simp at h

theorem choose_list {α : Type} {p : Nat → α → Prop} : ∀ n, (∀ i, i < n → ∃ x, p i x) → ∃ xs : List α, xs.length = n ∧ ∀ i x, xs[i]? = some x → p i x
  | 0, _ => ⟨[], rfl, by simp⟩
  | n + 1, h => by
    obtain ⟨xs, hl, hp⟩ := choose_list n (fun i hi => h i (by omega))
    obtain ⟨x, hx⟩ := h n (by omega)
    refine ⟨xs ++ [x], by simp [hl], fun i y hy => ?_⟩
    rcases Nat.lt_or_ge i n with hi | hi
    · rw [List.getElem?_append_left (by omega)] at hy
      exact hp i y hy
    · have hlt := (List.getElem?_eq_some_iff.1 hy).1
      simp at hlt
      obtain rfl : i = n := by omega
      rw [List.getElem?_append_right (by omega), hl] at hy
      simp at hy
      exact hy ▸ hx

theorem open_elems {α : Type} {d : Kd α} {t e : TypeId} {v : Value} {y : DataW H × List MemPlace} {good : α → Prop} (ht : P.underlying t = some (.slice e)) (hc : P.cellsOf e = 1) (hsz : d.sz = 1)
    (step : ∀ m u y', DataW.trod enc P W base spare held m e [u] = some y' → ∃ x : α, d.K W x [u] ∧ good x) (h : DataW.trod enc P W base spare held n t [v] = some y) :
    ∃ (A : Option Addr) (c : Nat) (xs : List α), v = .slice A xs.length c ∧ Kd.C d W A xs.length xs ∧ xs.length ≤ c ∧ ∀ x ∈ xs, good x := by
  rcases DataW.trod_slice ht h with ⟨hcs, rfl⟩ | ⟨a, len, cap, elems, rest, m, _, hcs, _, _, hl, hm, hlen, hel, _, _⟩
  · obtain rfl : v = .slice none 0 0 := by simpa using hcs
    exact ⟨none, 0, [], rfl, Kd.C_nil _ _, Nat.le_refl _, by simp⟩
  · obtain rfl : v = .slice (some a) len cap := by simpa using hcs
    have each : ∀ i, i < len → ∃ x : α, good x ∧ ∃ u, d.K W x [u] ∧ W.cell? (a.add i) = some u := by
      intro i hi
      have h1 := hel i hi
      rw [hc, Nat.mul_one, List.getElem?_eq_getElem (by omega)] at h1
      obtain ⟨cs, hcs, htr⟩ := Option.bind_eq_some_iff.1 h1
      obtain ⟨u, rfl, hu⟩ := cells_one hcs
      obtain ⟨x, hx, hg⟩ := step m u _ htr
      exact ⟨x, hg, u, hx, hu⟩
    obtain ⟨xs, hxl, hxs⟩ := choose_list len each
    refine ⟨some a, cap, xs, by rw [hxl], ⟨rfl, by unfold maxLen at hm; omega, fun _ => ⟨a, rfl, fun j p hj => ?_⟩⟩, by omega, fun x hx => ?_⟩
    · obtain ⟨_, u, hK, hu⟩ := hxs j p hj
      refine ⟨[u], by rw [hsz]; rfl, hK, fun i w hi => ?_⟩
      have hi0 : i = 0 := by have := (List.getElem?_eq_some_iff.1 hi).1; simp at this; exact this
      subst hi0
      simp at hi
      subst hi
      rw [hsz, Nat.mul_one, Nat.add_zero]
      exact hu
    · obtain ⟨i, hi, rfl⟩ := List.mem_iff_getElem.1 hx
      exact (hxs i _ (List.getElem?_eq_getElem hi)).1

theorem open_bools {t e : TypeId} {v : Value} {y : DataW H × List MemPlace} (ht : P.underlying t = some (.slice e)) (he : P.underlying e = some .bool) (hc : P.cellsOf e = 1)
    (h : DataW.trod enc P W base spare held n t [v] = some y) :
    ∃ (A : Option Addr) (c : Nat) (l : List Bool), v = .slice A l.length c ∧ Kd.C Kd.bool W A l.length l ∧ l.length ≤ c := by
  obtain ⟨A, c, l, h1, h2, h3, _⟩ := open_elems (d := Kd.bool) (good := fun _ => True) ht hc rfl (fun m u y' hy => by
    obtain ⟨b, h1, _⟩ := DataW.trod_bool he hy
    simp at h1
    subst h1
    exact ⟨b, rfl, trivial⟩) h
  exact ⟨A, c, l, h1, h2, h3⟩

theorem open_rows {t e e' : TypeId} {k : IntKind} {v : Value} {y : DataW H × List MemPlace} (ht : P.underlying t = some (.slice e)) (hc : P.cellsOf e = 1) (he : P.underlying e = some (.slice e')) (he' : P.underlying e' = some (.int k)) (hc' : P.cellsOf e' = 1)
    (h : DataW.trod enc P W base spare held n t [v] = some y) :
    ∃ (A : Option Addr) (c : Nat) (l : List (List Int)), v = .slice A l.length c ∧ Kd.C (Kd.slice e' (Kd.int k)) W A l.length l ∧ l.length ≤ c ∧ ∀ x ∈ l, ∀ z ∈ x, (Lit.int k z).wf = true :=
  open_elems (d := Kd.slice e' (Kd.int k)) (good := fun x => ∀ z ∈ x, (Lit.int k z).wf = true) ht hc rfl (fun m u y' hy => by
    obtain ⟨A, c, l, rfl, h2, h3, h4, _⟩ := open_nums he he' hc' hy
    exact ⟨l, ⟨A, c, rfl, h3, h2⟩, h4⟩) h

theorem weights_arg : ∀ {ts : List TypeId} {ds : List (DataW H)} {R : Nat} (_ : ∀ z ∈ DataW.weightsEach P ts ds, z ≤ R) (j : Nat) {t : TypeId} {d : DataW H}, ts[j]? = some t → ds[j]? = some d → ∀ z ∈ DataW.weights P t d, z ≤ R
  | [], _, _, _, _, _, _, ht, _ => by simp at ht
  | _ :: _, [], _, _, _, _, _, _, hd => by simp at hd
  | t0 :: ts, d0 :: ds, R, h, 0, t, d, ht, hd => by
    simp at ht hd
    subst ht hd
    intro z hz
    exact h z (by simp only [DataW.weightsEach, List.mem_append]; exact .inl hz)
  | t0 :: ts, d0 :: ds, R, h, j + 1, t, d, ht, hd =>
    weights_arg (fun z hz => h z (by simp only [DataW.weightsEach, List.mem_append]; exact .inr hz)) j (by simpa using ht) (by simpa using hd)

theorem weights_all {ts : List TypeId} {ds : List (DataW H)} (hsz : (DataW.weightsEach P ts ds).all (· ≤ reachBytes) = true) : ∀ z ∈ DataW.weightsEach P ts ds, z ≤ reachBytes := fun z hz => by
  have := List.all_eq_true.1 hsz z hz
  simpa using this

theorem weights_field {t : TypeId} {fs : Array Field} {parts : List (DataW H)} {R : Nat} (hu : P.underlying t = some (.struct fs)) (h : ∀ z ∈ DataW.weights P t (.agg parts), z ≤ R) (j : Nat) {t' : TypeId} {d : DataW H}
    (ht : (fs.toList.map (·.type))[j]? = some t') (hd : parts[j]? = some d) : ∀ z ∈ DataW.weights P t' d, z ≤ R :=
  weights_arg (ts := fs.toList.map (·.type)) (ds := parts) (fun z hz => h z (by simp only [DataW.weights, hu]; exact hz)) j ht hd

theorem bulk_part : ∀ {ds : List (DataW H)} (j : Nat) {d : DataW H}, ds[j]? = some d → Rows.uptoBulk d ≤ Rows.uptoBulkAll ds
  | [], _, _, h => by simp at h
  | d0 :: ds, 0, d, h => by
    simp at h
    subst h
    simp only [Rows.uptoBulkAll]
    omega
  | d0 :: ds, j + 1, d, h => by
    have := bulk_part (ds := ds) j (by simpa using h)
    simp only [Rows.uptoBulkAll]
    omega

theorem bulk_field {parts : List (DataW H)} (j : Nat) {d : DataW H} (h : parts[j]? = some d) : Rows.uptoBulk d ≤ Rows.uptoBulk (.agg parts) := by
  have := bulk_part j h
  simp only [Rows.uptoBulk]
  omega
end
end Go.Proofs.Ytlhmgigjbeefbaa.XOpen
