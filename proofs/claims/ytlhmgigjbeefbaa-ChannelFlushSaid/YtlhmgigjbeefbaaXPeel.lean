/-
  Facts at a world that stands some plain steps (a variable made, some draws) behind the one at which they were told: each in one short word. (Made to shorten the printed texts.)
-/
import Derived.Test.YtlhmgigjbeefbaaWAt
import Derived.Test.YtlhmgigjbeefbaaWN
import Derived.Test.YtlhmgigjbeefbaaWApart
import Derived.Test.YtlhmgigjbeefbaaWMore
namespace Go.Proofs.YtlhmgigjbeefbaaW.PrintMore
open Go.RowKit Go.Proofs.YtlhmgigjbeefbaaW.PrintWords Go.Proofs.YtlhmgigjbeefbaaW.PrintLast
variable {P : Program} {α : Type} {d : Kd α} {e : TypeId} {W w : World} {base : Nat} {ok : Nat → Prop} {v : Value} {xs : List α}

theorem pV {W' : World} (h : Kd.V d e W base ok v xs) (hs : Below W.heap.size W W' := by repeat (first | (with_reducible first | exact Below.refl _ _ | apply below_alloc | apply pw_below_drewN | apply below_drew1) | exact Below.refl _ _)) : Kd.V d e W' base ok v xs := Kd.V_below h hs
theorem pR {W' : World} (h : d.R e W base ok v xs) (hs : Below W.heap.size W W' := by repeat (first | (with_reducible first | exact Below.refl _ _ | apply below_alloc | apply pw_below_drewN | apply below_drew1) | exact Below.refl _ _)) : d.R e W' base ok v xs := Kd.R_below h hs
theorem pQ {W' : World} (h : Kd.Q d e W base ok v xs) (hs : Below W.heap.size W W' := by repeat (first | (with_reducible first | exact Below.refl _ _ | apply below_alloc | apply pw_below_drewN | apply below_drew1) | exact Below.refl _ _)) : Kd.Q d e W' base ok v xs := Kd.Q_below h hs
theorem pC {W' : World} {A : Option Addr} {n : Nat} (h : d.C W A n xs) (hs : Below W.heap.size W W' := by repeat (first | (with_reducible first | exact Below.refl _ _ | apply below_alloc | apply pw_below_drewN | apply below_drew1) | exact Below.refl _ _)) : d.C W' A n xs := Kd.C_below h hs
theorem pS {W' : World} (h : Kd.S d e W base ok v xs) (hs : Below W.heap.size W W' := by repeat (first | (with_reducible first | exact Below.refl _ _ | apply below_alloc | apply pw_below_drewN | apply below_drew1) | exact Below.refl _ _)) : Kd.S d e W' base ok v xs := Kd.S_below h hs
theorem pN {W' : World} (h : Kd.N d e W base ok v xs) (hs : Below W.heap.size W W' := by repeat (first | (with_reducible first | exact Below.refl _ _ | apply below_alloc | apply pw_below_drewN | apply below_drew1) | exact Below.refl _ _)) : Kd.N d e W' base ok v xs := Kd.N_below h hs
theorem pK {W' : World} {g : Nat} {o : Obj} (h : W.heap[g]? = some o) (hs : Below W.heap.size W W' := by repeat (first | (with_reducible first | exact Below.refl _ _ | apply below_alloc | apply pw_below_drewN | apply below_drew1) | exact Below.refl _ _)) : W'.heap[g]? = some o := blk_below h hs
theorem pB {W' : World} (h : Below w.heap.size w W) (hs : Below W.heap.size W W' := by repeat (first | (with_reducible first | exact Below.refl _ _ | apply below_alloc | apply pw_below_drewN | apply below_drew1) | exact Below.refl _ _)) : Below w.heap.size w W' := below_step h hs
end Go.Proofs.YtlhmgigjbeefbaaW.PrintMore
