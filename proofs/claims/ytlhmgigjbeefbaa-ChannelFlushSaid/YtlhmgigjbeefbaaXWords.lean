/-
  A word for the printed texts: '[]byte("abc")' of a constant, as a row that is only read: the literal's row gets the run-time's mark behind its last cell, so it is no row of the call's own. No condition.
-/
import Derived.Test.YtlhmgigjbeefbaaWMore
import Derived.Lib.SlBytesConst
import Derived.WalkMore
namespace Go.Proofs.Ytlhmgigjbeefbaa.XWords
open Go.RowKit Go.Proofs.YtlhmgigjbeefbaaW.PrintWords Go.Proofs.YtlhmgigjbeefbaaW.PrintLast Go.Proofs.YtlhmgigjbeefbaaW.PrintMore

theorem marked_cells {W w1 : World} {e : Nat} {xs : List Int} {f : Nat × Nat} (hb : w1.heap[W.heap.size]? = some (.cells (encs (Value.int .u8) xs).toArray e f)) (hn : xs.length ≤ 9223372036854775807) :
    Kd.C (Kd.int .u8) w1 (some ⟨W.heap.size, 0, none⟩) xs.length xs := by
  refine Kd.C_of_reads (d := (0 : Int)) ⟨rfl, hn, fun _ => ⟨_, rfl, fun j hj => ?_⟩⟩
  rw [add_plain]
  simp only [World.cell?, hb]
  simp [encs, List.getD_eq_getElem?_getD, hj]

theorem V_const {P : Program} {ops : Array Oper} {rest : List Oper} {o : Oper} {a : Act} {Q : Exit → Act → World → Prop} {w0 W : World} (base e : Nat) (hgd : o.guard = none) {N : Tmp} (_hd : o.dst = some N) {xs : List Int} (T : Nat) (s : Operand)
    (ho : o.op = .convert T T s) (hT : P.underlying T = some (.slice e)) (he : P.underlying e = some (.int .u8)) {cs : Array Value} (hcs : cs = (encs (Value.int .u8) xs).toArray) {n : Nat}
    (hs : a.eval s = .slice (some ⟨W.heap.size, 0, none⟩) n n) (hn : n = xs.length) (hm : xs.length ≤ 9223372036854775807) (HB : Below base w0 W) (hbase : base ≤ W.heap.size)
    (h : ∀ v1 w1, Kd.V (Kd.int .u8) e w1 base (fun k_ => W.heap.size ≤ k_) v1 xs → Below base w0 w1 → W.grownBy w1 none → (∃ b, v1.ownBlock = some b ∧ W.heap.size ≤ b) → wpList P ops Q rest (a.put o.dst v1) w1) :
    wpList P ops Q (o :: rest) a (W.alloc (.cells cs e)) := by
  subst hcs hn
  have hrun : (execOp a.eval o).run P (W.alloc (.cells (encs (Value.int .u8) xs).toArray e)) = .ok (.value (.slice (some ⟨W.heap.size, 0, none⟩) xs.length xs.length)) (W.alloc (.cells (encs (Value.int .u8) xs).toArray e ((encs (Value.int .u8) xs).toArray.size, (encs (Value.int .u8) xs).toArray.size + 1))) := by
    have hr := Lib.run_convert_bytes_const (P := P) W T e (encs (Value.int .u8) xs).toArray xs.length xs.length hT he
    simp [execOp, ho, hs, hr]
  refine Kd.event_run hgd hrun (h _ _ ⟨_, _, rfl, Nat.le_refl _, ?_⟩ (HB.alloc hbase _) (World.grownBy_alloc W _ none) ⟨W.heap.size, by simp [Value.ownBlock], Nat.le_refl _⟩)
  intro W' hW
  have hb := hW W.heap.size (Nat.le_refl _) (by simp)
  rw [heap_alloc_new] at hb
  exact marked_cells hb hm

/-- 'xs[:j:j]'. -/
theorem cut_to3 {P : Program} (t e : TypeId) (kh : IntKind) {i : TypeInfo} (ht : P.underlying t = some (.slice e)) (hi : P.info? e = some i) (A : Option Addr) (n c : Nat) (j : Int) (h0 : 0 ≤ j) (hm : j ≤ n) (hc : n ≤ c) :
    ∀ W : World, (Instr.slice t (.slice A n c) none (some (.int kh j)) (some (.int kh j))).run P W = .ok (.slice A j.toNat j.toNat) W := by
  intro W
  have hel : P.elem t = e := by simp [Program.elem, ht]
  have hu : P.underlying t = some (.slice (P.elem t)) := by rw [hel]; exact ht
  have ha : (A.map fun x => x.add 0) = A := by cases A <;> simp [Addr.add]
  rw [run_slice_hm W t A n c hu kh kh j j h0 (Int.le_refl _) (by omega), hel]
  simp [sizeOf, typeInfo, hi, sliced, Result.andThen, ha]

/-- 'make([]T, 0, m)'. -/
theorem R_make_cap {P : Program} {ops : Array Oper} {rest : List Oper} {o : Oper} {a : Act} {Q : Exit → Act → World → Prop} {α : Type} (d : Kd α) {w0 W : World} (base e : Nat) (hgd : o.guard = none) {N : Tmp} (_hd : o.dst = some N) (T : Nat) (x y : Operand) (ho : o.op = .makeSlice T x y)
    (hT : P.underlying T = some (.slice e)) (z : Value) (bytes : Nat) (hinfo : (P.info? e).map (fun i => (i.zero, i.size, i.bytes)) = some (some z, d.sz, bytes)) (hb0 : 0 < bytes) (m : Int)
    (hx : a.eval x = .int .i64 0) (hy : a.eval y = .int .i64 m) (h0 : 0 ≤ m) (hm : m.toNat * bytes ≤ 281474976710656) (HB : Below base w0 W) (hbase : base ≤ W.heap.size)
    (h : ∀ v1 w1, d.R e w1 base (fun _ => True) v1 [] → Below base w0 w1 → W.grownBy w1 none → (∃ b, v1.ownBlock = some b ∧ W.heap.size ≤ b) → wpList P ops Q rest (a.put o.dst v1) w1) :
    wpList P ops Q (o :: rest) a W := by
  obtain ⟨i0, hi, hzz⟩ := Option.map_eq_some_iff.1 hinfo
  simp only [Prod.mk.injEq] at hzz
  obtain ⟨hz, hsz, hby⟩ := hzz
  have hmb : m.toNat ≤ m.toNat * bytes := Nat.le_mul_of_pos_right _ hb0
  have hr := run_make (P := P) W T e i0 z hT hi hz .i64 .i64 0 m (Int.le_refl _) h0 (by rw [hby, Int.mul_comm]; have : ((m.toNat * bytes : Nat) : Int) = m * bytes := by rw [Int.natCast_mul, Int.toNat_of_nonneg h0]
                                                                                        omega) (by omega)
  have hrun : (execOp a.eval o).run P W = .ok (.value (.slice (some ⟨W.heap.size, 0, none⟩) 0 m.toNat)) (W.alloc (.cells (madeCells z.cells (m.toNat * d.sz)) e)) := by
    simp [execOp, ho, hx, hy]
    rw [hr, hsz]
    rfl
  refine Kd.event_run hgd hrun (h _ _ ⟨fun _ _ => trivial, [], ?_, Reps.none _ _⟩ (HB.alloc hbase _) (World.grownBy_alloc W _ none) ⟨W.heap.size, by simp [Value.ownBlock], Nat.le_refl _⟩)
  exact ⟨by simp, .inr ⟨W.heap.size, m.toNat, _, rfl, hbase, heap_alloc_new W _, Nat.zero_le _, by unfold maxLen; omega, by simp [madeCells], by simp⟩⟩
end Go.Proofs.Ytlhmgigjbeefbaa.XWords
