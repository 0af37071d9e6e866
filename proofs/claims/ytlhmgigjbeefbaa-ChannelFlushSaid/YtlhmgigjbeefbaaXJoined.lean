/-
  The contracts of 'slices.Clone' and 'slices.Delete' at []int. Clone: by a walk: a copy. Delete: out of the library's shelf: the elements from i on to j are taken out, in place. Conditions: fewer than 2^44 elements (Clone); 0 ≤ i ≤ j ≤ length, not empty (Delete).
-/
import Derived.Test.YtlhmgigjbeefbaaProg
import Derived.WalkKit
import Derived.WalkSpells
import Derived.Below
import Derived.KernelRfl
import Derived.RowKit3
import Derived.Laws.MakeOwn
import Derived.Laws.CopyOwn
import Derived.Deep.OwnRows
import Derived.Test.YtlhmgigjbeefbaaWWords
import Derived.Test.YtlhmgigjbeefbaaWLast
import Derived.Test.YtlhmgigjbeefbaaWMore
import Derived.Test.YtlhmgigjbeefbaaWFour
import Derived.Test.YtlhmgigjbeefbaaXWords
import Derived.Test.YtlhmgigjbeefbaaXShelf
namespace Go.Proofs.Ytlhmgigjbeefbaa.XJoined
open Go.RowKit Go.Proofs.YtlhmgigjbeefbaaW.PrintWords Go.Proofs.YtlhmgigjbeefbaaW.PrintLast

theorem info3 : (Try.prog.info? 3).map (fun i => (i.zero, i.size, i.bytes)) = some (some (.int .i64 0), 1, 8) := by kernel_rfl

/-! ### slices.Clone -/
def cloneF (l0 : List Int) : Option (List Int) := if l0.length < 17592186044416 then some l0 else none

set_option maxHeartbeats 1000000 in
theorem clone_calls (A0 : Option Addr) (c0 : Nat) (l0 : List Int) (r : List Int) (w : World) (hr0 : Kd.C (Kd.int .i64) w A0 l0.length l0) (_hc0 : l0.length ≤ c0) (h : cloneF l0 = some r) :
    Calls Try.prog 36 #[.slice A0 l0.length c0] w fun e w' => ∃ v0_ : Value, e = .returned (v0_) ∧ Kd.R (Kd.int .i64) 3 w' w.heap.size (fun _ => True) v0_ r ∧ Below w.heap.size w w' := by
  unfold cloneF at h
  by_cases hb : l0.length < 17592186044416
  · rw [if_pos hb] at h
    obtain rfl := Option.some.inj h
    cases A0 with
    | none =>
      obtain rfl : l0 = [] := by
        cases l0 with
        | nil => rfl
        | cons x l =>
          obtain ⟨_, _, h3⟩ := Kd.reads_of_C (d := (0 : Int)) hr0
          obtain ⟨ad, e, _⟩ := h3 (by simp)
          cases e
      have hnil := fun (u : World) (n c : Nat) => Lib.run_eql_slice_nil (P := Try.prog) u 22 3 none n c 0 0 Try.underlying22
      clear hr0 h
      go_enter Try.func36, Try.ntmps36
      go_wp2
      go_ret
      exact ⟨_, rfl, Kd.R_nil _ _ _ _ _, Below.refl _ _⟩
    | some ad =>
      have hnil := fun (u : World) (n c : Nat) => Lib.run_eql_slice_nil (P := Try.prog) u 22 3 (some ad) n c 0 0 Try.underlying22
      clear h
      have HR := Aside0.mk hr0
      clear hr0
      go_enter Try.func36, Try.ntmps36
      go_wp2_with (first | ((with_reducible refine gate_dst (N := 5) rfl ?_); refine Kd.R_lit (Kd.int .i64) w.heap.size 3 ?hg (N := 5) ?hd (xs := ([] : List Int)) (inner := []) (ok := fun _ => True) (okp := fun _ => True) ?hr (Reps.none _ _) (fun _ hk => hk) trivial (Below.refl _ _) (Nat.le_refl _) (by simp) ?_; (case hd => rfl); (case hg => rfl); (case hr => first | (go_simp; done) | (go_simp; rfl)); intro v1 w1 ho1 hb1 _ _; have HO1 := Aside0.mk ho1; have HB1 := Aside0.mk hb1; clear ho1 hb1) | ((with_reducible refine gate_builtin (b := .append) (xs := #[.tmp 5, .tmp 6]) rfl ?_); at_builtin; refine Kd.R_append_rows (Kd.int .i64) (w0 := w) w.heap.size rfl (.tmp 5) (.tmp 6) 22 3 (.int .i64 0) 8 rfl Try.underlying22 info3 rfl (by decide) (by decide) v1 [] l0 _ _ _ (fun _ => True) (fun _ => False) rfl rfl ?aO ?aR (fun _ _ h => h) (fun _ h => h.elim) (fun _ _ => trivial) ?aB ?aS ?aL ?_; (case aR => exact (Kd.C_below HR.out HB1.out)); (case aB => exact HB1.out); (case aO => exact HO1.out); (case aS => exact (below_size HB1.out)); (case aL => rw [List.length_nil]; omega); intro v2 w2 ho2 hb2 _ _; have HO2 := Aside0.mk ho2; have HB2 := Aside0.mk hb2; clear ho2 hb2))
      go_ret
      exact ⟨_, rfl, by simpa using HO2.out, HB2.out⟩
  · rw [if_neg hb] at h
    simp at h

/-! ### slices.Delete -/
def deleteF (l0 : List Int) (i j : Int) : Option (List Int) := if 0 ≤ i ∧ i ≤ j ∧ j ≤ (l0.length : Int) ∧ 0 < l0.length then some (l0.take i.toNat ++ l0.drop j.toNat) else none

theorem kept_setCells {w : World} {g : Nat} {S : Nat → Prop} (hS : S g) (vs : List Value) (q : Nat) : Kept w ((w.drewN q).setCells g 0 vs) S :=
  ⟨by rw [show ((w.drewN q).setCells g 0 vs).heap.size = w.heap.size from by rw [(setCells_same g vs 0 (w.drewN q)).2.2.2]; rfl]; exact Nat.le_refl _, fun i _ hne => by rw [setCells_far vs 0 i (fun e => hne (e ▸ hS))]; rfl⟩

theorem delete_calls (P0_ : Nat → Prop) (u9000_ : Value) (l0 : List Int) (a1 : Int) (a2 : Int) (r : List Int) (w0 w : World) (hB : Below w0.heap.size w0 w) (ho0 : Kd.R (Kd.int .i64) 3 w w0.heap.size P0_ u9000_ l0) (h : deleteF l0 a1 a2 = some r) :
    Calls Try.prog 34 #[u9000_, .int .i64 a1, .int .i64 a2] w fun e w' => ∃ v0_ : Value, e = .returned (v0_) ∧ Kd.R (Kd.int .i64) 3 w' w0.heap.size (fun k_ => (P0_ k_ ∨ w.heap.size ≤ k_)) v0_ r ∧ Below w0.heap.size w0 w' ∧ Kept w w' (fun k_ => P0_ k_) := by
  unfold deleteF at h
  split at h
  · rename_i hc
    obtain ⟨h0, h1, h2, h3⟩ := hc
    obtain rfl := Option.some.inj h
    have hown := Kd.own_of_R ho0
    obtain ⟨i, rfl⟩ := Int.eq_ofNat_of_zero_le h0
    obtain ⟨j, rfl⟩ := Int.eq_ofNat_of_zero_le (show 0 ≤ a2 by omega)
    simp only [Int.toNat_natCast]
    rcases hown.2 with ⟨_, hn⟩ | ⟨g, cap, cur, rfl, hg, hh, hnc, hcm, hcur, htk⟩
    · omega
    · rw [Nat.mul_one] at hcur htk
      have hcell : ∀ k, k < l0.length → w.cell? ⟨g, 0 + k, none⟩ = some (.int .i64 (l0.getD k 0)) := by
        intro k hk
        have e1 : cur.toList[k]? = (encs (Value.int .i64) l0)[k]? := by rw [← htk, List.getElem?_take, if_pos hk]
        simp only [World.cell?, hh, Nat.zero_add]
        rw [Array.getElem?_toList] at e1
        simp [e1, encs, List.getD_eq_getElem?_getD, hk]
      have hfr : ∀ k, k < l0.length → w.frozen? ⟨g, 0 + k, none⟩ = false := fun k _ => by simp [World.frozen?, hh]
      refine (Try.slices_Delete_int_cells g 0 l0.length cap i j l0 w (Nat.le_refl _) hnc (by unfold maxLen at hcm; omega) (by omega) (by omega) hcell hfr).mono ?_
      rintro e w' ⟨rfl, q, rfl⟩
      have hP : P0_ g := ho0.1 g (by simp [Value.ownBlock])
      have hlen : (((l0.take l0.length).take i ++ (l0.take l0.length).drop j ++ List.replicate (j - i) (0 : Int)).map (Value.int .i64)).length = l0.length := by
        simp only [List.length_map, List.length_append, List.length_take, List.length_drop, List.length_replicate]
        omega
      have hrow := setCells_row (g := g) (e := 3) (((l0.take l0.length).take i ++ (l0.take l0.length).drop j ++ List.replicate (j - i) (0 : Int)).map (Value.int .i64)) 0 (w.drewN q) cur hh (by rw [hlen]; omega)
      obtain ⟨cur', h3', h4, h5⟩ := hrow
      have hrl : (l0.take i ++ l0.drop j).length = l0.length - (j - i) := by
        simp only [List.length_append, List.length_take, List.length_drop]
        omega
      refine ⟨_, rfl, Kd.R_of_own ⟨by simp [encs], .inr ⟨g, cap, cur', by rw [hrl], hg, h3', by omega, hcm, by rw [h4]; omega, ?_⟩⟩ (fun k hk => ?_), ?_, kept_setCells hP _ q⟩
      · rw [h5, hrl, Nat.mul_one, List.take_zero, List.nil_append, List.take_length, List.map_append, List.take_append_of_le_length (by rw [List.length_append, List.length_map, List.length_map]; omega)]
        rw [List.take_append_of_le_length (by rw [List.length_map]; omega), List.take_of_length_le (by rw [List.length_map]; omega)]
        rfl
      · have : g = k := by simpa [Value.ownBlock] using hk
        exact .inl (this ▸ hP)
      · obtain ⟨s1, s2, s3, s4⟩ := setCells_same g (((l0.take l0.length).take i ++ (l0.take l0.length).drop j ++ List.replicate (j - i) (0 : Int)).map (Value.int .i64)) 0 (w.drewN q)
        exact hB.trans ⟨s1, s2, s3, by rw [s4]; exact Nat.le_refl _, fun k hk => setCells_far _ 0 k (by omega)⟩
  · simp at h
end Go.Proofs.Ytlhmgigjbeefbaa.XJoined
