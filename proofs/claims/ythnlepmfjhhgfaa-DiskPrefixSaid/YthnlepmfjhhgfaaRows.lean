/-
  No cell of these rows narrows 'for every input' (looked for: loops, veiled, ifaces, maps, wideKeys, modest, calm, conditions, laid).
  DERIVED. THE GIVEN ROWS OF THIS SEAT. 9 by the template 'for every input the law returns true; each argument reads behind the call as it read before'; 0 by the template 'total and deterministic' (their statements: YthnlepmfjhhgfaaTotals.lean).
  GIVEN WITH THE SEED: the statements are not yours to turn. If you find one false, say at which input.
  Laid BY PROGRAM, IN A SANDBOX (cutbox-rows.mjs): the forced cells as the released guide's own fill.sh prints them over the translation 8b8ae69fa9ba260b… (all of the seat's roots in one cut). By AI agents, Wed Nov 11 2026. No macro, syntax, notation, axiom, sorry.
-/
import Derived.Test.YthnlepmfjhhgfaaChecked
import GoSem.Claim
import GoSem.ClaimJoined
import GoSem.ClaimMapViews
import Derived.JoinedTies
import Derived.KernelRfl
namespace Go.Proofs.Ythnlepmfjhhgfaa
/- THE CELL 'sum', in the pinned program and in every row, IS THE sha256 OF THE DUMP (.gsa) THAT YthnlepmfjhhgfaaProg.lean LOADS. Nothing in Lean hashes anything: it is a label: what it is worth is what the hold of that sum in a sandbox is worth. -/
noncomputable def Try.pinned : Pinned := { name := "ythnlepmfjhhgfaa", sum := "8b8ae69fa9ba260bc3f5b344d03fd02f2dcf331880126637642390f10094fa85", checked := Try.checked }
namespace Rows
def none {H : Type} : Left H := { results := [], args := [] }

/-- 'customslaw33.DiskWrite': WHATEVER THE INPUT: true; the input reads as it did. -/
def diskWriteSpec : ChangeSpec := { name := "diskWrite", fn := fun _ => fun
  | [d1, d2] => { results := [.lit (.bool true)], args := [d1, d2] }
  | _ => none }
def diskWriteRow : OpenClaim := { program := "ythnlepmfjhhgfaa", sum := "8b8ae69fa9ba260bc3f5b344d03fd02f2dcf331880126637642390f10094fa85", func := "customs/customslaw33.DiskWrite", spec := "diskWrite", apart := false }
def DiskWriteSaid : Prop := diskWriteRow.holds Try.pinned (OpenSpec.ofChange diskWriteSpec)

/-- ITS FALSE NEIGHBOUR: 'it returns false'. Refute it at one input. -/
def diskWriteWrong : ChangeSpec := { name := "diskWrite", fn := fun _ => fun
  | [d1, d2] => { results := [.lit (.bool false)], args := [d1, d2] }
  | _ => none }
def DiskWriteWrongFalsely : Prop := diskWriteRow.holds Try.pinned (OpenSpec.ofChange diskWriteWrong)

/-- 'customslaw33.DiskPrefix': WHATEVER THE INPUT: true; the input reads as it did. -/
def diskPrefixSpec : ChangeSpec := { name := "diskPrefix", fn := fun _ => fun
  | [d1, d2, d3] => { results := [.lit (.bool true)], args := [d1, d2, d3] }
  | _ => none }
def diskPrefixRow : OpenClaim := { program := "ythnlepmfjhhgfaa", sum := "8b8ae69fa9ba260bc3f5b344d03fd02f2dcf331880126637642390f10094fa85", func := "customs/customslaw33.DiskPrefix", spec := "diskPrefix", apart := false }
def DiskPrefixSaid : Prop := diskPrefixRow.holds Try.pinned (OpenSpec.ofChange diskPrefixSpec)

/-- ITS FALSE NEIGHBOUR: 'it returns false'. Refute it at one input. -/
def diskPrefixWrong : ChangeSpec := { name := "diskPrefix", fn := fun _ => fun
  | [d1, d2, d3] => { results := [.lit (.bool false)], args := [d1, d2, d3] }
  | _ => none }
def DiskPrefixWrongFalsely : Prop := diskPrefixRow.holds Try.pinned (OpenSpec.ofChange diskPrefixWrong)

/-- 'customslaw33.DiskFlip': WHATEVER THE INPUT: true; the input reads as it did. -/
def diskFlipSpec : ChangeSpec := { name := "diskFlip", fn := fun _ => fun
  | [d1, d2] => { results := [.lit (.bool true)], args := [d1, d2] }
  | _ => none }
def diskFlipRow : OpenClaim := { program := "ythnlepmfjhhgfaa", sum := "8b8ae69fa9ba260bc3f5b344d03fd02f2dcf331880126637642390f10094fa85", func := "customs/customslaw33.DiskFlip", spec := "diskFlip", apart := false }
def DiskFlipSaid : Prop := diskFlipRow.holds Try.pinned (OpenSpec.ofChange diskFlipSpec)

/-- ITS FALSE NEIGHBOUR: 'it returns false'. Refute it at one input. -/
def diskFlipWrong : ChangeSpec := { name := "diskFlip", fn := fun _ => fun
  | [d1, d2] => { results := [.lit (.bool false)], args := [d1, d2] }
  | _ => none }
def DiskFlipWrongFalsely : Prop := diskFlipRow.holds Try.pinned (OpenSpec.ofChange diskFlipWrong)

/-- 'customslaw33.DiskCrash': WHATEVER THE INPUT: true; the input reads as it did. -/
def diskCrashSpec : ChangeSpec := { name := "diskCrash", fn := fun _ => fun
  | [d1, d2, d3, d4, d5] => { results := [.lit (.bool true)], args := [d1, d2, d3, d4, d5] }
  | _ => none }
def diskCrashRow : OpenClaim := { program := "ythnlepmfjhhgfaa", sum := "8b8ae69fa9ba260bc3f5b344d03fd02f2dcf331880126637642390f10094fa85", func := "customs/customslaw33.DiskCrash", spec := "diskCrash", apart := false }
def DiskCrashSaid : Prop := diskCrashRow.holds Try.pinned (OpenSpec.ofChange diskCrashSpec)

/-- ITS FALSE NEIGHBOUR: 'it returns false'. Refute it at one input. -/
def diskCrashWrong : ChangeSpec := { name := "diskCrash", fn := fun _ => fun
  | [d1, d2, d3, d4, d5] => { results := [.lit (.bool false)], args := [d1, d2, d3, d4, d5] }
  | _ => none }
def DiskCrashWrongFalsely : Prop := diskCrashRow.holds Try.pinned (OpenSpec.ofChange diskCrashWrong)

/-- 'customslaw34.JournalEncode': WHATEVER THE INPUT: true; the input reads as it did. -/
def journalEncodeSpec : ChangeSpec := { name := "journalEncode", fn := fun _ => fun
  | [d1, d2] => { results := [.lit (.bool true)], args := [d1, d2] }
  | _ => none }
def journalEncodeRow : OpenClaim := { program := "ythnlepmfjhhgfaa", sum := "8b8ae69fa9ba260bc3f5b344d03fd02f2dcf331880126637642390f10094fa85", func := "customs/customslaw34.JournalEncode", spec := "journalEncode", apart := false }
def JournalEncodeSaid : Prop := journalEncodeRow.holds Try.pinned (OpenSpec.ofChange journalEncodeSpec)

/-- ITS FALSE NEIGHBOUR: 'it returns false'. Refute it at one input. -/
def journalEncodeWrong : ChangeSpec := { name := "journalEncode", fn := fun _ => fun
  | [d1, d2] => { results := [.lit (.bool false)], args := [d1, d2] }
  | _ => none }
def JournalEncodeWrongFalsely : Prop := journalEncodeRow.holds Try.pinned (OpenSpec.ofChange journalEncodeWrong)

/-- 'customslaw34.JournalScan': WHATEVER THE INPUT: true; the input reads as it did. -/
def journalScanSpec : ChangeSpec := { name := "journalScan", fn := fun _ => fun
  | [d1, d2, d3] => { results := [.lit (.bool true)], args := [d1, d2, d3] }
  | _ => none }
def journalScanRow : OpenClaim := { program := "ythnlepmfjhhgfaa", sum := "8b8ae69fa9ba260bc3f5b344d03fd02f2dcf331880126637642390f10094fa85", func := "customs/customslaw34.JournalScan", spec := "journalScan", apart := false }
def JournalScanSaid : Prop := journalScanRow.holds Try.pinned (OpenSpec.ofChange journalScanSpec)

/-- ITS FALSE NEIGHBOUR: 'it returns false'. Refute it at one input. -/
def journalScanWrong : ChangeSpec := { name := "journalScan", fn := fun _ => fun
  | [d1, d2, d3] => { results := [.lit (.bool false)], args := [d1, d2, d3] }
  | _ => none }
def JournalScanWrongFalsely : Prop := journalScanRow.holds Try.pinned (OpenSpec.ofChange journalScanWrong)

/-- 'customslaw34.JournalOpen': WHATEVER THE INPUT: true; the input reads as it did. -/
def journalOpenSpec : ChangeSpec := { name := "journalOpen", fn := fun _ => fun
  | [d1, d2, d3, d4, d5] => { results := [.lit (.bool true)], args := [d1, d2, d3, d4, d5] }
  | _ => none }
def journalOpenRow : OpenClaim := { program := "ythnlepmfjhhgfaa", sum := "8b8ae69fa9ba260bc3f5b344d03fd02f2dcf331880126637642390f10094fa85", func := "customs/customslaw34.JournalOpen", spec := "journalOpen", apart := false }
def JournalOpenSaid : Prop := journalOpenRow.holds Try.pinned (OpenSpec.ofChange journalOpenSpec)

/-- ITS FALSE NEIGHBOUR: 'it returns false'. Refute it at one input. -/
def journalOpenWrong : ChangeSpec := { name := "journalOpen", fn := fun _ => fun
  | [d1, d2, d3, d4, d5] => { results := [.lit (.bool false)], args := [d1, d2, d3, d4, d5] }
  | _ => none }
def JournalOpenWrongFalsely : Prop := journalOpenRow.holds Try.pinned (OpenSpec.ofChange journalOpenWrong)

/-- 'customslaw34.JournalCrash': WHATEVER THE INPUT: true; the input reads as it did. -/
def journalCrashSpec : ChangeSpec := { name := "journalCrash", fn := fun _ => fun
  | [d1, d2, d3] => { results := [.lit (.bool true)], args := [d1, d2, d3] }
  | _ => none }
def journalCrashRow : OpenClaim := { program := "ythnlepmfjhhgfaa", sum := "8b8ae69fa9ba260bc3f5b344d03fd02f2dcf331880126637642390f10094fa85", func := "customs/customslaw34.JournalCrash", spec := "journalCrash", apart := false }
def JournalCrashSaid : Prop := journalCrashRow.holds Try.pinned (OpenSpec.ofChange journalCrashSpec)

/-- ITS FALSE NEIGHBOUR: 'it returns false'. Refute it at one input. -/
def journalCrashWrong : ChangeSpec := { name := "journalCrash", fn := fun _ => fun
  | [d1, d2, d3] => { results := [.lit (.bool false)], args := [d1, d2, d3] }
  | _ => none }
def JournalCrashWrongFalsely : Prop := journalCrashRow.holds Try.pinned (OpenSpec.ofChange journalCrashWrong)

/-- 'customslaw34.JournalSnapshot': WHATEVER THE INPUT: true; the input reads as it did. -/
def journalSnapshotSpec : ChangeSpec := { name := "journalSnapshot", fn := fun _ => fun
  | [d1, d2, d3, d4, d5] => { results := [.lit (.bool true)], args := [d1, d2, d3, d4, d5] }
  | _ => none }
def journalSnapshotRow : OpenClaim := { program := "ythnlepmfjhhgfaa", sum := "8b8ae69fa9ba260bc3f5b344d03fd02f2dcf331880126637642390f10094fa85", func := "customs/customslaw34.JournalSnapshot", spec := "journalSnapshot", apart := false }
def JournalSnapshotSaid : Prop := journalSnapshotRow.holds Try.pinned (OpenSpec.ofChange journalSnapshotSpec)

/-- ITS FALSE NEIGHBOUR: 'it returns false'. Refute it at one input. -/
def journalSnapshotWrong : ChangeSpec := { name := "journalSnapshot", fn := fun _ => fun
  | [d1, d2, d3, d4, d5] => { results := [.lit (.bool false)], args := [d1, d2, d3, d4, d5] }
  | _ => none }
def JournalSnapshotWrongFalsely : Prop := journalSnapshotRow.holds Try.pinned (OpenSpec.ofChange journalSnapshotWrong)

/- THE SECOND FORM. 'bulk': how many values and letters a reading holds, each counted each time it is reached (what is shared counts as often as it is met; a slice's spare places count too). A statement '..UptoSaid' is the law's where the arguments, and the package variables that the reading takes, are together of bulk at most 1048576: NARROWER than '..Said'. Prove '..Said' where nothing that the law and all that it calls make is longer than what came in: it says more and counts as full. Else prove '..UptoSaid'. A law counts once. -/
mutual
def uptoBulk {H : Type} : DataW H → Nat
  | .lit (.string bytes) => bytes.length + 1
  | .lit _ => 1
  | .nil => 1
  | .ptr d => uptoBulk d + 1
  | .slice elems spare => uptoBulkAll elems + uptoBulkAll spare + 1
  | .agg parts => uptoBulkAll parts + 1
  | .iface _ d => uptoBulk d + 1
  | .map entries => uptoBulkEntries entries + 1
  | .held _ => 1
def uptoBulkAll {H : Type} : List (DataW H) → Nat
  | [] => 0
  | d :: r => uptoBulk d + uptoBulkAll r
def uptoBulkEntries {H : Type} : List (Lit × DataW H) → Nat
  | [] => 0
  | x :: r => uptoBulkEntry x + uptoBulkEntries r
def uptoBulkEntry {H : Type} : Lit × DataW H → Nat
  | (.string bytes, d) => bytes.length + uptoBulk d + 1
  | (_, d) => uptoBulk d + 1
 end
def uptoSmall : (H : Type) → List (DataW H) → Bool := fun _ ds => decide (uptoBulkAll ds ≤ 1048576)
def OpenSpec.upto (s : _root_.Go.ChangeSpec) : _root_.Go.OpenSpec := { _root_.Go.OpenSpec.ofChange s with cond := some uptoSmall }

/-- 'customslaw33.DiskWrite', WHERE WHAT IT READS IS OF BULK AT MOST 1048576: true; the input reads as it did. -/
def diskWriteUptoRow : OpenClaim := { program := "ythnlepmfjhhgfaa", sum := "8b8ae69fa9ba260bc3f5b344d03fd02f2dcf331880126637642390f10094fa85", func := "customs/customslaw33.DiskWrite", spec := "diskWrite", apart := false, narrowed := true }
def DiskWriteUptoSaid : Prop := diskWriteUptoRow.holds Try.pinned (OpenSpec.upto diskWriteSpec)

/-- 'customslaw33.DiskPrefix', WHERE WHAT IT READS IS OF BULK AT MOST 1048576: true; the input reads as it did. -/
def diskPrefixUptoRow : OpenClaim := { program := "ythnlepmfjhhgfaa", sum := "8b8ae69fa9ba260bc3f5b344d03fd02f2dcf331880126637642390f10094fa85", func := "customs/customslaw33.DiskPrefix", spec := "diskPrefix", apart := false, narrowed := true }
def DiskPrefixUptoSaid : Prop := diskPrefixUptoRow.holds Try.pinned (OpenSpec.upto diskPrefixSpec)

/-- 'customslaw33.DiskFlip', WHERE WHAT IT READS IS OF BULK AT MOST 1048576: true; the input reads as it did. -/
def diskFlipUptoRow : OpenClaim := { program := "ythnlepmfjhhgfaa", sum := "8b8ae69fa9ba260bc3f5b344d03fd02f2dcf331880126637642390f10094fa85", func := "customs/customslaw33.DiskFlip", spec := "diskFlip", apart := false, narrowed := true }
def DiskFlipUptoSaid : Prop := diskFlipUptoRow.holds Try.pinned (OpenSpec.upto diskFlipSpec)

/-- 'customslaw33.DiskCrash', WHERE WHAT IT READS IS OF BULK AT MOST 1048576: true; the input reads as it did. -/
def diskCrashUptoRow : OpenClaim := { program := "ythnlepmfjhhgfaa", sum := "8b8ae69fa9ba260bc3f5b344d03fd02f2dcf331880126637642390f10094fa85", func := "customs/customslaw33.DiskCrash", spec := "diskCrash", apart := false, narrowed := true }
def DiskCrashUptoSaid : Prop := diskCrashUptoRow.holds Try.pinned (OpenSpec.upto diskCrashSpec)

/-- 'customslaw34.JournalEncode', WHERE WHAT IT READS IS OF BULK AT MOST 1048576: true; the input reads as it did. -/
def journalEncodeUptoRow : OpenClaim := { program := "ythnlepmfjhhgfaa", sum := "8b8ae69fa9ba260bc3f5b344d03fd02f2dcf331880126637642390f10094fa85", func := "customs/customslaw34.JournalEncode", spec := "journalEncode", apart := false, narrowed := true }
def JournalEncodeUptoSaid : Prop := journalEncodeUptoRow.holds Try.pinned (OpenSpec.upto journalEncodeSpec)

/-- 'customslaw34.JournalScan', WHERE WHAT IT READS IS OF BULK AT MOST 1048576: true; the input reads as it did. -/
def journalScanUptoRow : OpenClaim := { program := "ythnlepmfjhhgfaa", sum := "8b8ae69fa9ba260bc3f5b344d03fd02f2dcf331880126637642390f10094fa85", func := "customs/customslaw34.JournalScan", spec := "journalScan", apart := false, narrowed := true }
def JournalScanUptoSaid : Prop := journalScanUptoRow.holds Try.pinned (OpenSpec.upto journalScanSpec)

/-- 'customslaw34.JournalOpen', WHERE WHAT IT READS IS OF BULK AT MOST 1048576: true; the input reads as it did. -/
def journalOpenUptoRow : OpenClaim := { program := "ythnlepmfjhhgfaa", sum := "8b8ae69fa9ba260bc3f5b344d03fd02f2dcf331880126637642390f10094fa85", func := "customs/customslaw34.JournalOpen", spec := "journalOpen", apart := false, narrowed := true }
def JournalOpenUptoSaid : Prop := journalOpenUptoRow.holds Try.pinned (OpenSpec.upto journalOpenSpec)

/-- 'customslaw34.JournalCrash', WHERE WHAT IT READS IS OF BULK AT MOST 1048576: true; the input reads as it did. -/
def journalCrashUptoRow : OpenClaim := { program := "ythnlepmfjhhgfaa", sum := "8b8ae69fa9ba260bc3f5b344d03fd02f2dcf331880126637642390f10094fa85", func := "customs/customslaw34.JournalCrash", spec := "journalCrash", apart := false, narrowed := true }
def JournalCrashUptoSaid : Prop := journalCrashUptoRow.holds Try.pinned (OpenSpec.upto journalCrashSpec)

/-- 'customslaw34.JournalSnapshot', WHERE WHAT IT READS IS OF BULK AT MOST 1048576: true; the input reads as it did. -/
def journalSnapshotUptoRow : OpenClaim := { program := "ythnlepmfjhhgfaa", sum := "8b8ae69fa9ba260bc3f5b344d03fd02f2dcf331880126637642390f10094fa85", func := "customs/customslaw34.JournalSnapshot", spec := "journalSnapshot", apart := false, narrowed := true }
def JournalSnapshotUptoSaid : Prop := journalSnapshotUptoRow.holds Try.pinned (OpenSpec.upto journalSnapshotSpec)

end Rows
end Go.Proofs.Ythnlepmfjhhgfaa
