/-
  No cell of these rows narrows 'for every input' (looked for: loops, veiled, ifaces, maps, wideKeys, modest, calm, conditions, laid).
  DERIVED. THE GIVEN ROWS OF THIS SEAT. 4 by the template 'for every input the law returns true; each argument reads behind the call as it read before'; 0 by the template 'total and deterministic' (their statements: YtlhmgigjbeefbaaTotals.lean).
  GIVEN WITH THE SEED: the statements are not yours to turn. If you find one false, say at which input.
  Laid BY PROGRAM, IN A SANDBOX (cutbox-rows.mjs): the forced cells as the released guide's own fill.sh prints them over the translation 1b0288e9a671add2… (all of the seat's roots in one cut). By AI agents, Wed Nov 11 2026. No macro, syntax, notation, axiom, sorry.
-/
import Derived.Test.YtlhmgigjbeefbaaChecked
import GoSem.Claim
import GoSem.ClaimJoined
import GoSem.ClaimMapViews
import Derived.JoinedTies
import Derived.KernelRfl
namespace Go.Proofs.Ytlhmgigjbeefbaa
/- THE CELL 'sum', in the pinned program and in every row, IS THE sha256 OF THE DUMP (.gsa) THAT YtlhmgigjbeefbaaProg.lean LOADS. Nothing in Lean hashes anything: it is a label: what it is worth is what the hold of that sum in a sandbox is worth. -/
noncomputable def Try.pinned : Pinned := { name := "ytlhmgigjbeefbaa", sum := "1b0288e9a671add271b3ad5133e14868359138ee1900fe96ca2d98e2ea55a299", checked := Try.checked }
namespace Rows
def none {H : Type} : Left H := { results := [], args := [] }

/-- 'customslaw38.ChannelFlushRaw': WHATEVER THE INPUT: true; the input reads as it did. -/
def channelFlushRawSpec : ChangeSpec := { name := "channelFlushRaw", fn := fun _ => fun
  | [d1, d2, d3] => { results := [.lit (.bool true)], args := [d1, d2, d3] }
  | _ => none }
def channelFlushRawRow : OpenClaim := { program := "ytlhmgigjbeefbaa", sum := "1b0288e9a671add271b3ad5133e14868359138ee1900fe96ca2d98e2ea55a299", func := "customs/customslaw38.ChannelFlushRaw", spec := "channelFlushRaw", apart := false }
def ChannelFlushRawSaid : Prop := channelFlushRawRow.holds Try.pinned (OpenSpec.ofChange channelFlushRawSpec)

/-- ITS FALSE NEIGHBOUR: 'it returns false'. Refute it at one input. -/
def channelFlushRawWrong : ChangeSpec := { name := "channelFlushRaw", fn := fun _ => fun
  | [d1, d2, d3] => { results := [.lit (.bool false)], args := [d1, d2, d3] }
  | _ => none }
def ChannelFlushRawWrongFalsely : Prop := channelFlushRawRow.holds Try.pinned (OpenSpec.ofChange channelFlushRawWrong)

/-- 'customslaw38.ChannelSafe': WHATEVER THE INPUT: true; the input reads as it did. -/
def channelSafeSpec : ChangeSpec := { name := "channelSafe", fn := fun _ => fun
  | [d] => { results := [.lit (.bool true)], args := [d] }
  | _ => none }
def channelSafeRow : OpenClaim := { program := "ytlhmgigjbeefbaa", sum := "1b0288e9a671add271b3ad5133e14868359138ee1900fe96ca2d98e2ea55a299", func := "customs/customslaw38.ChannelSafe", spec := "channelSafe", apart := false }
def ChannelSafeSaid : Prop := channelSafeRow.holds Try.pinned (OpenSpec.ofChange channelSafeSpec)

/-- ITS FALSE NEIGHBOUR: 'it returns false'. Refute it at one input. -/
def channelSafeWrong : ChangeSpec := { name := "channelSafe", fn := fun _ => fun
  | [d] => { results := [.lit (.bool false)], args := [d] }
  | _ => none }
def ChannelSafeWrongFalsely : Prop := channelSafeRow.holds Try.pinned (OpenSpec.ofChange channelSafeWrong)

/-- 'customslaw38.ChannelSteps': WHATEVER THE INPUT: true; the input reads as it did. -/
def channelStepsSpec : ChangeSpec := { name := "channelSteps", fn := fun _ => fun
  | [d1, d2, d3, d4, d5] => { results := [.lit (.bool true)], args := [d1, d2, d3, d4, d5] }
  | _ => none }
def channelStepsRow : OpenClaim := { program := "ytlhmgigjbeefbaa", sum := "1b0288e9a671add271b3ad5133e14868359138ee1900fe96ca2d98e2ea55a299", func := "customs/customslaw38.ChannelSteps", spec := "channelSteps", apart := false }
def ChannelStepsSaid : Prop := channelStepsRow.holds Try.pinned (OpenSpec.ofChange channelStepsSpec)

/-- ITS FALSE NEIGHBOUR: 'it returns false'. Refute it at one input. -/
def channelStepsWrong : ChangeSpec := { name := "channelSteps", fn := fun _ => fun
  | [d1, d2, d3, d4, d5] => { results := [.lit (.bool false)], args := [d1, d2, d3, d4, d5] }
  | _ => none }
def ChannelStepsWrongFalsely : Prop := channelStepsRow.holds Try.pinned (OpenSpec.ofChange channelStepsWrong)

/-- 'customslaw38.ChannelFlush': WHATEVER THE INPUT: true; the input reads as it did. -/
def channelFlushSpec : ChangeSpec := { name := "channelFlush", fn := fun _ => fun
  | [d] => { results := [.lit (.bool true)], args := [d] }
  | _ => none }
def channelFlushRow : OpenClaim := { program := "ytlhmgigjbeefbaa", sum := "1b0288e9a671add271b3ad5133e14868359138ee1900fe96ca2d98e2ea55a299", func := "customs/customslaw38.ChannelFlush", spec := "channelFlush", apart := false }
def ChannelFlushSaid : Prop := channelFlushRow.holds Try.pinned (OpenSpec.ofChange channelFlushSpec)

/-- ITS FALSE NEIGHBOUR: 'it returns false'. Refute it at one input. -/
def channelFlushWrong : ChangeSpec := { name := "channelFlush", fn := fun _ => fun
  | [d] => { results := [.lit (.bool false)], args := [d] }
  | _ => none }
def ChannelFlushWrongFalsely : Prop := channelFlushRow.holds Try.pinned (OpenSpec.ofChange channelFlushWrong)

/- THE SECOND FORM. 'bulk': how many values and letters a reading holds, each counted each time it is reached (what is shared counts as often as it is met; a slice's spare places count too). A statement '..UptoSaid' is the law's where the arguments, and the package variables that the reading takes, are together of bulk at most 1048576: NARROWER than '..Said'. Prove '..Said' where nothing that the law and all that it calls make is longer than what came in: it says more and counts as full. Else prove '..UptoSaid'. A law counts once. -/
mutual
def uptoBulk {H : Type} : DataW H → Nat
  | .lit (.string bytes) => bytes.length + 1
  | .lit _ => 1
  | .nil => 1
  | .ptr d => uptoBulk d + 1
  | .slice elems spare => uptoBulkAll elems + uptoBulkAll spare + 1
  | .agg parts => uptoBulkAll parts + 1
  | .iface _ d => uptoBulk d + 1
  | .map entries => uptoBulkEntries entries + 1
  | .held _ => 1
def uptoBulkAll {H : Type} : List (DataW H) → Nat
  | [] => 0
  | d :: r => uptoBulk d + uptoBulkAll r
def uptoBulkEntries {H : Type} : List (Lit × DataW H) → Nat
  | [] => 0
  | x :: r => uptoBulkEntry x + uptoBulkEntries r
def uptoBulkEntry {H : Type} : Lit × DataW H → Nat
  | (.string bytes, d) => bytes.length + uptoBulk d + 1
  | (_, d) => uptoBulk d + 1
 end
def uptoSmall : (H : Type) → List (DataW H) → Bool := fun _ ds => decide (uptoBulkAll ds ≤ 1048576)
def OpenSpec.upto (s : _root_.Go.ChangeSpec) : _root_.Go.OpenSpec := { _root_.Go.OpenSpec.ofChange s with cond := some uptoSmall }

/-- 'customslaw38.ChannelFlushRaw', WHERE WHAT IT READS IS OF BULK AT MOST 1048576: true; the input reads as it did. -/
def channelFlushRawUptoRow : OpenClaim := { program := "ytlhmgigjbeefbaa", sum := "1b0288e9a671add271b3ad5133e14868359138ee1900fe96ca2d98e2ea55a299", func := "customs/customslaw38.ChannelFlushRaw", spec := "channelFlushRaw", apart := false, narrowed := true }
def ChannelFlushRawUptoSaid : Prop := channelFlushRawUptoRow.holds Try.pinned (OpenSpec.upto channelFlushRawSpec)

/-- 'customslaw38.ChannelSafe', WHERE WHAT IT READS IS OF BULK AT MOST 1048576: true; the input reads as it did. -/
def channelSafeUptoRow : OpenClaim := { program := "ytlhmgigjbeefbaa", sum := "1b0288e9a671add271b3ad5133e14868359138ee1900fe96ca2d98e2ea55a299", func := "customs/customslaw38.ChannelSafe", spec := "channelSafe", apart := false, narrowed := true }
def ChannelSafeUptoSaid : Prop := channelSafeUptoRow.holds Try.pinned (OpenSpec.upto channelSafeSpec)

/-- 'customslaw38.ChannelSteps', WHERE WHAT IT READS IS OF BULK AT MOST 1048576: true; the input reads as it did. -/
def channelStepsUptoRow : OpenClaim := { program := "ytlhmgigjbeefbaa", sum := "1b0288e9a671add271b3ad5133e14868359138ee1900fe96ca2d98e2ea55a299", func := "customs/customslaw38.ChannelSteps", spec := "channelSteps", apart := false, narrowed := true }
def ChannelStepsUptoSaid : Prop := channelStepsUptoRow.holds Try.pinned (OpenSpec.upto channelStepsSpec)

/-- 'customslaw38.ChannelFlush', WHERE WHAT IT READS IS OF BULK AT MOST 1048576: true; the input reads as it did. -/
def channelFlushUptoRow : OpenClaim := { program := "ytlhmgigjbeefbaa", sum := "1b0288e9a671add271b3ad5133e14868359138ee1900fe96ca2d98e2ea55a299", func := "customs/customslaw38.ChannelFlush", spec := "channelFlush", apart := false, narrowed := true }
def ChannelFlushUptoSaid : Prop := channelFlushUptoRow.holds Try.pinned (OpenSpec.upto channelFlushSpec)

end Rows
end Go.Proofs.Ytlhmgigjbeefbaa
