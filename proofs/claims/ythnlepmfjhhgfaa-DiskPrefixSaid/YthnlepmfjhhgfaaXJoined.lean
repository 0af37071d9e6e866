/-
  The contracts of 'disk.joined' and 'slices.Clone' at bytes, proved by hand: joined returns new memory that holds the first slice's bytes followed by the second's; Clone returns a copy. Conditions: together at most 2^48 bytes (joined), fewer than 2^47 (Clone).
-/
import Derived.Test.YthnlepmfjhhgfaaProg
import Derived.WalkKit
import Derived.WalkSpells
import Derived.Below
import Derived.KernelRfl
import Derived.RowKit3
import Derived.Laws.MakeOwn
import Derived.Laws.CopyOwn
import Derived.Deep.OwnRows
import Derived.Test.YthnlepmfjhhgfaaWWords
import Derived.Test.YthnlepmfjhhgfaaWLast
import Derived.Test.YthnlepmfjhhgfaaWMore
import Derived.Test.YthnlepmfjhhgfaaWFour
import Derived.Test.YthnlepmfjhhgfaaXWords
namespace Go.Proofs.Ythnlepmfjhhgfaa.XJoined
open Go.RowKit Go.Proofs.YthnlepmfjhhgfaaW.PrintWords Go.Proofs.YthnlepmfjhhgfaaW.PrintLast

def joinedF (l0 l1 : List Int) : Option (List Int) := if l0.length + l1.length ≤ 281474976710656 then some (l0 ++ l1) else none

theorem info5 : (Try.prog.info? 5).map (fun i => (i.zero, i.size, i.bytes)) = some (some (.int .u8 0), 1, 1) := by kernel_rfl

theorem made_splice (z : Value) (n0 n1 : Nat) (xs ys : List Value) (h0 : xs.length = n0) (h1 : ys.length = n1) :
    splice (splice (madeCells #[z] (n0 + n1)).toList 0 xs) n0 ys = xs ++ ys := by
  have hz : (madeCells #[z] (n0 + n1)).toList.length = n0 + n1 := by simp [madeCells]
  generalize (madeCells #[z] (n0 + n1)).toList = L at hz
  subst h0 h1
  simp [splice]
  omega

theorem made_splice0 (z : Value) (n0 : Nat) (xs : List Value) (h0 : xs.length = n0) : splice (splice (madeCells #[z] n0).toList 0 xs) n0 [] = xs ++ [] := made_splice z n0 0 xs [] h0 rfl

theorem cell_alloc' {w : World} {a : Addr} {v : Value} (h : w.cell? a = some v) (o : Obj) : (w.alloc o).cell? a = some v := pw_cell_below ((Below.refl w.heap.size w).alloc (Nat.le_refl _) o) h

set_option maxHeartbeats 1000000 in
theorem joined_core (A0 A1 : Option Addr) (n0 c0 n1 c1 : Nat) (xs ys : List Value) (w : World) (hx : xs.length = n0) (hy : ys.length = n1) 
    (hp0 : 0 < n0 → ∃ ad, A0 = some ad ∧ ∀ j v, xs[j]? = some v → w.cell? (ad.add j) = some v)
    (hp1 : 0 < n1 → ∃ ad, A1 = some ad ∧ ∀ j v, ys[j]? = some v → w.cell? (ad.add j) = some v)
    (ho0 : ∀ v ∈ xs, v.oneCell' = true) (ho1 : ∀ v ∈ ys, v.oneCell' = true) (hb : n0 + n1 ≤ 281474976710656) :
    Calls Try.prog 41 #[.slice A0 n0 c0, .slice A1 n1 c1] w fun e w' => e = .returned (.slice (some ⟨w.heap.size, 0, none⟩) (n0 + n1) (n0 + n1)) ∧ w'.heap[w.heap.size]? = some (.cells (xs ++ ys).toArray 5 (0, 0)) ∧ Below w.heap.size w w' := by
  obtain ⟨i0, hi, hz0, hz1, hz2⟩ := info_parts info5
  have hmk : ∀ u : World, (Instr.makeSlice 22 (.int .i64 ((n0 : Int) + (n1 : Int))) (.int .i64 ((n0 : Int) + (n1 : Int)))).run Try.prog u =
      .ok (.slice (some ⟨u.heap.size, 0, none⟩) (n0 + n1) (n0 + n1)) (u.alloc (.cells (madeCells #[.int .u8 0] (n0 + n1)) 5)) := fun u => by
    have h := run_make (P := Try.prog) u 22 5 i0 (.int .u8 0) Try.underlying22 hi hz0 .i64 .i64 ((n0 : Int) + (n1 : Int)) ((n0 : Int) + (n1 : Int)) (by omega) (Int.le_refl _) (by rw [hz2]; omega) (by omega)
    have e : ((n0 : Int) + (n1 : Int)).toNat = n0 + n1 := by omega
    rw [e] at h
    simpa [hz1, Value.cells] using h
  go_enter Try.func41, Try.ntmps41
  have hsz5 : (Try.prog.info? 5).map (·.size) = some 1 := by kernel_rfl
  have hB0 : Below w.heap.size w (w.alloc (Obj.cells (madeCells #[Value.int IntKind.u8 0] (n0 + n1)) 5)) := (Below.refl _ _).alloc (Nat.le_refl _) _
  have hG0 := Aside0.mk (show (w.alloc (Obj.cells (madeCells #[Value.int IntKind.u8 0] (n0 + n1)) 5)).heap[w.heap.size]? = some (.cells (madeCells #[Value.int IntKind.u8 0] (n0 + n1)).toList.toArray 5 (0, 0)) from by simpa using heap_alloc_new w _)
  have hML : (madeCells #[Value.int IntKind.u8 0] (n0 + n1)).toList.length = n0 + n1 := by simp [madeCells]
  have HML := Aside0.mk hML
  clear hML
  have HX := Aside0.mk hx
  have HY := Aside0.mk hy
  clear hx hy
  have HB0 := Aside0.mk hB0
  clear hB0
  have HP0 := Aside0.mk hp0
  have HP1 := Aside0.mk hp1
  clear hp0 hp1
  by_cases hpos : 0 < n1
  · skip
    go_wp2_with (with_reducible refine wpList_copy_splice (o := ⟨some 15, _, _, _, _, _⟩) rfl (.tmp 13) (.tmp 14) 22 22 rfl 5 Try.underlying22 hsz5 _ _ _ _ _ _ rfl rfl w.heap.size 0 (madeCells #[Value.int IntKind.u8 0] (n0 + n1)).toList 5 hG0.out xs ?c1 ?c2 ?c3 ho0 w.heap.size w HB0.out (Nat.le_refl _) ?_)
    case c1 => have := HX.out; show _ = min _ _; omega
    case c2 =>
      intro hx0
      first | refine ⟨rfl, ?_⟩ | skip
      obtain ⟨ad, e, hc⟩ := HP0.out (by have := HX.out; omega)
      exact ⟨ad, e, fun j v hv => cell_alloc' (hc j v hv) _⟩
    case c3 => have := HX.out; have := HML.out; omega
    intro w1 hG1 hB1
    rw [HX.out]
    have HB1 := Aside0.mk hB1
    have HG1 := Aside0.mk hG1.out
    clear hB1 hG1
    go_wp2_with (with_reducible refine wpList_copy_splice (o := ⟨some 20, _, _, _, _, _⟩) rfl (.tmp 18) (.tmp 19) 22 22 rfl 5 Try.underlying22 hsz5 _ _ _ _ _ _ rfl rfl w.heap.size n0 (splice (madeCells #[Value.int IntKind.u8 0] (n0 + n1)).toList 0 xs) 5 HG1.out ys ?d1 ?d2 ?d3 ho1 w.heap.size w HB1.out (Nat.le_refl _) ?_)
    case d1 => have := HY.out; show _ = min _ _; omega
    case d2 =>
      intro hx0
      first | refine ⟨rfl, ?_⟩ | skip
      obtain ⟨ad, e, hc⟩ := HP1.out (by have := HY.out; omega)
      exact ⟨ad, e, fun j v hv => pw_cell_below HB1.out (hc j v hv)⟩
    case d3 => rw [length_splice _ _ _ (by have := HX.out; have := HML.out; omega)]; have := HX.out; have := HY.out; have := HML.out; omega
    intro w2 hG2 hB2
    have HB2 := Aside0.mk hB2
    have HG2 := Aside0.mk hG2.out
    clear hB2 hG2
    go_wp2
    go_ret
    exact ⟨rfl, by rw [HG2.out, made_splice _ _ _ _ _ HX.out HY.out], HB2.out⟩
  · obtain rfl : n1 = 0 := by omega
    obtain rfl : ys = [] := List.eq_nil_of_length_eq_zero HY.out
    simp only [Nat.add_zero, Int.natCast_zero, Int.add_zero] at hmk HB0 hG0 HML hb ⊢
    go_wp2_with (with_reducible refine wpList_copy_splice (o := ⟨some 15, _, _, _, _, _⟩) rfl (.tmp 13) (.tmp 14) 22 22 rfl 5 Try.underlying22 hsz5 _ _ _ _ _ _ rfl rfl w.heap.size 0 (madeCells #[Value.int IntKind.u8 0] n0).toList 5 hG0.out xs ?c1 ?c2 ?c3 ho0 w.heap.size w HB0.out (Nat.le_refl _) ?_)
    case c1 => have := HX.out; show _ = min _ _; omega
    case c2 =>
      intro hx0
      first | refine ⟨rfl, ?_⟩ | skip
      obtain ⟨ad, e, hc⟩ := HP0.out (by have := HX.out; omega)
      exact ⟨ad, e, fun j v hv => cell_alloc' (hc j v hv) _⟩
    case c3 => have := HX.out; have := HML.out; omega
    intro w1 hG1 hB1
    rw [HX.out]
    have HB1 := Aside0.mk hB1
    have HG1 := Aside0.mk hG1.out
    clear hB1 hG1
    go_wp2_with (with_reducible refine wpList_copy_splice (o := ⟨some 20, _, _, _, _, _⟩) rfl (.tmp 18) (.tmp 19) 22 22 rfl 5 Try.underlying22 hsz5 _ _ _ _ _ _ rfl rfl w.heap.size n0 (splice (madeCells #[Value.int IntKind.u8 0] n0).toList 0 xs) 5 HG1.out [] ?d1 ?d2 ?d3 ho1 w.heap.size w HB1.out (Nat.le_refl _) ?_)
    case d1 => simp
    case d2 => intro hx0; simp at hx0
    case d3 => rw [length_splice _ _ _ (by have := HX.out; have := HML.out; omega)]; have := HX.out; have := HML.out; simp only [List.length_nil]; omega
    intro w2 hG2 hB2
    have HB2 := Aside0.mk hB2
    have HG2 := Aside0.mk hG2.out
    clear hB2 hG2
    go_wp2
    go_ret
    exact ⟨rfl, by rw [HG2.out, made_splice0 _ _ _ HX.out], HB2.out⟩

theorem cells_of_C {k : IntKind} {w : World} {A : Option Addr} {l : List Int} (h : Kd.C (Kd.int k) w A l.length l) :
    0 < l.length → ∃ ad, A = some ad ∧ ∀ j v, (encs (Value.int k) l)[j]? = some v → w.cell? (ad.add j) = some v := by
  intro h0
  obtain ⟨_, _, h3⟩ := Kd.reads_of_C (d := (0 : Int)) h
  obtain ⟨ad, e, hc⟩ := h3 h0
  refine ⟨ad, e, fun j v hv => ?_⟩
  simp only [encs, List.getElem?_map, Option.map_eq_some_iff] at hv
  obtain ⟨x, hx, rfl⟩ := hv
  have hj : j < l.length := (List.getElem?_eq_some_iff.1 hx).1
  rw [hc j hj]
  simp [List.getD_eq_getElem?_getD, hx]

theorem one_encs {k : IntKind} (l : List Int) : ∀ v ∈ encs (Value.int k) l, v.oneCell' = true := by
  intro v hv
  simp only [encs, List.mem_map] at hv
  obtain ⟨x, _, rfl⟩ := hv
  rfl

theorem joined_calls (A0 : Option Addr) (c0 : Nat) (l0 : List Int) (A1 : Option Addr) (c1 : Nat) (l1 : List Int) (r : List Int) (w : World)
    (hr0 : Kd.C (Kd.int .u8) w A0 l0.length l0) (_hc0 : l0.length ≤ c0) (hr1 : Kd.C (Kd.int .u8) w A1 l1.length l1) (_hc1 : l1.length ≤ c1) (h : joinedF l0 l1 = some r) :
    Calls Try.prog 41 #[.slice A0 l0.length c0, .slice A1 l1.length c1] w fun e w' => ∃ v0_ : Value, e = .returned (v0_) ∧ Kd.R (Kd.int .u8) 5 w' w.heap.size (fun _ => True) v0_ r ∧ Below w.heap.size w w' := by
  unfold joinedF at h
  by_cases hb : l0.length + l1.length ≤ 281474976710656
  · rw [if_pos hb] at h
    obtain rfl := Option.some.inj h
    refine (joined_core A0 A1 l0.length c0 l1.length c1 (encs (Value.int .u8) l0) (encs (Value.int .u8) l1) w (by simp [encs]) (by simp [encs]) (cells_of_C hr0) (cells_of_C hr1) (one_encs _) (one_encs _) hb).mono ?_
    rintro e w' ⟨rfl, hg, hB⟩
    refine ⟨_, rfl, Kd.R_of_own ⟨by simp [encs], .inr ⟨w.heap.size, l0.length + l1.length, _, by rw [List.length_append], Nat.le_refl _, hg, by simp, by unfold maxLen; omega, by simp [encs], ?_⟩⟩ (fun _ _ => trivial), hB⟩
    simp [encs]
    exact List.take_of_length_le (by simp)
  · rw [if_neg hb] at h
    simp at h

/-! ### slices.Clone -/
def cloneF (l0 : List Int) : Option (List Int) := if l0.length < 140737488355328 then some l0 else none

set_option maxHeartbeats 1000000 in
theorem clone_calls (A0 : Option Addr) (c0 : Nat) (l0 : List Int) (r : List Int) (w : World) (hr0 : Kd.C (Kd.int .u8) w A0 l0.length l0) (_hc0 : l0.length ≤ c0) (h : cloneF l0 = some r) :
    Calls Try.prog 46 #[.slice A0 l0.length c0] w fun e w' => ∃ v0_ : Value, e = .returned (v0_) ∧ Kd.R (Kd.int .u8) 5 w' w.heap.size (fun _ => True) v0_ r ∧ Below w.heap.size w w' := by
  unfold cloneF at h
  by_cases hb : l0.length < 140737488355328
  · rw [if_pos hb] at h
    obtain rfl := Option.some.inj h
    cases A0 with
    | none =>
      obtain rfl : l0 = [] := by
        cases l0 with
        | nil => rfl
        | cons x l =>
          obtain ⟨_, _, h3⟩ := Kd.reads_of_C (d := (0 : Int)) hr0
          obtain ⟨ad, e, _⟩ := h3 (by simp)
          cases e
      have hnil := fun (u : World) (n c : Nat) => Lib.run_eql_slice_nil (P := Try.prog) u 22 5 none n c 0 0 Try.underlying22
      clear hr0 h
      go_enter Try.func46, Try.ntmps46
      go_wp2
      go_ret
      exact ⟨_, rfl, Kd.R_nil _ _ _ _ _, Below.refl _ _⟩
    | some ad =>
      have hnil := fun (u : World) (n c : Nat) => Lib.run_eql_slice_nil (P := Try.prog) u 22 5 (some ad) n c 0 0 Try.underlying22
      clear h
      have HR := Aside0.mk hr0
      clear hr0
      go_enter Try.func46, Try.ntmps46
      go_wp2_with (first | ((with_reducible refine gate_dst (N := 5) rfl ?_); refine Kd.R_lit (Kd.int .u8) w.heap.size 5 ?hg (N := 5) ?hd (xs := ([] : List Int)) (inner := []) (ok := fun _ => True) (okp := fun _ => True) ?hr (Reps.none _ _) (fun _ hk => hk) trivial (Below.refl _ _) (Nat.le_refl _) (by simp) ?_; (case hd => rfl); (case hg => rfl); (case hr => first | (go_simp; done) | (go_simp; rfl)); intro v1 w1 ho1 hb1 _ _; have HO1 := Aside0.mk ho1; have HB1 := Aside0.mk hb1; clear ho1 hb1) | ((with_reducible refine gate_builtin (b := .append) (xs := #[.tmp 5, .tmp 6]) rfl ?_); at_builtin; refine Kd.R_append_rows (Kd.int .u8) (w0 := w) w.heap.size rfl (.tmp 5) (.tmp 6) 22 5 (.int .u8 0) 1 rfl Try.underlying22 info5 rfl (by decide) (by decide) v1 [] l0 _ _ _ (fun _ => True) (fun _ => False) rfl rfl ?aO ?aR (fun _ _ h => h) (fun _ h => h.elim) (fun _ _ => trivial) ?aB ?aS ?aL ?_; (case aR => exact (Kd.C_below HR.out HB1.out)); (case aB => exact HB1.out); (case aO => exact HO1.out); (case aS => exact (below_size HB1.out)); (case aL => rw [List.length_nil]; omega); intro v2 w2 ho2 hb2 _ _; have HO2 := Aside0.mk ho2; have HB2 := Aside0.mk hb2; clear ho2 hb2))
      go_ret
      exact ⟨_, rfl, by simpa using HO2.out, HB2.out⟩
  · rw [if_neg hb] at h
    simp at h
end Go.Proofs.Ythnlepmfjhhgfaa.XJoined
