/-
  No cell of these rows narrows 'for every input' (looked for: loops, veiled, ifaces, maps, wideKeys, modest, calm, conditions, laid).
  DERIVED. THE GIVEN ROWS OF THIS SEAT. 17 by the template 'for every input the law returns true; each argument reads behind the call as it read before'; 0 by the template 'total and deterministic' (their statements: YtamimiomglipmaaGreatTotals.lean).
  GIVEN WITH THE SEED: the statements are not yours to turn. If you find one false, say at which input.
  Laid BY PROGRAM, IN A SANDBOX (cutbox-rows.mjs): the forced cells as the released guide's own fill.sh prints them over the translation 7723f2eddbf6e7c5… (all of the seat's roots in one cut). By AI agents, Wed Nov 11 2026. No macro, syntax, notation, axiom, sorry.
-/
import Derived.Test.YtamimiomglipmaaGreatChecked
import GoSem.Claim
import GoSem.ClaimJoined
import GoSem.ClaimMapViews
import Derived.JoinedTies
import Derived.KernelRfl
namespace Go.Proofs.YtamimiomglipmaaGreat
/- THE CELL 'sum', in the pinned program and in every row, IS THE sha256 OF THE DUMP (.gsa) THAT YtamimiomglipmaaGreatProg.lean LOADS. Nothing in Lean hashes anything: it is a label: what it is worth is what the hold of that sum in a sandbox is worth. -/
noncomputable def Tryz.pinned : Pinned := { name := "ytamimiomglipmaagreat", sum := "7723f2eddbf6e7c55cc368142371bba5ede27a8017b22733253ed0a379b00ebc", checked := Tryz.checked }
namespace Rows
def none {H : Type} : Left H := { results := [], args := [] }

/-- 'puncheonlaw26.PushNew': WHATEVER THE INPUT: true; the input reads as it did. -/
def pushNewSpec : ChangeSpec := { name := "pushNew", fn := fun _ => fun
  | [d1, d2] => { results := [.lit (.bool true)], args := [d1, d2] }
  | _ => none }
def pushNewRow : OpenClaim := { program := "ytamimiomglipmaagreat", sum := "7723f2eddbf6e7c55cc368142371bba5ede27a8017b22733253ed0a379b00ebc", func := "puncheon/puncheonlaw26.PushNew", spec := "pushNew", unfollowed := true, recurses := true, apart := false }
def PushNewSaid : Prop := pushNewRow.holds Tryz.pinned (OpenSpec.ofChange pushNewSpec)

/-- ITS FALSE NEIGHBOUR: 'it returns false'. Refute it at one input. -/
def pushNewWrong : ChangeSpec := { name := "pushNew", fn := fun _ => fun
  | [d1, d2] => { results := [.lit (.bool false)], args := [d1, d2] }
  | _ => none }
def PushNewWrongFalsely : Prop := pushNewRow.holds Tryz.pinned (OpenSpec.ofChange pushNewWrong)

/-- 'puncheonlaw26.PushSteps': WHATEVER THE INPUT: true; the input reads as it did. -/
def pushStepsSpec : ChangeSpec := { name := "pushSteps", fn := fun _ => fun
  | [d1, d2, d3, d4] => { results := [.lit (.bool true)], args := [d1, d2, d3, d4] }
  | _ => none }
def pushStepsRow : OpenClaim := { program := "ytamimiomglipmaagreat", sum := "7723f2eddbf6e7c55cc368142371bba5ede27a8017b22733253ed0a379b00ebc", func := "puncheon/puncheonlaw26.PushSteps", spec := "pushSteps", unfollowed := true, recurses := true, apart := false }
def PushStepsSaid : Prop := pushStepsRow.holds Tryz.pinned (OpenSpec.ofChange pushStepsSpec)

/-- ITS FALSE NEIGHBOUR: 'it returns false'. Refute it at one input. -/
def pushStepsWrong : ChangeSpec := { name := "pushSteps", fn := fun _ => fun
  | [d1, d2, d3, d4] => { results := [.lit (.bool false)], args := [d1, d2, d3, d4] }
  | _ => none }
def PushStepsWrongFalsely : Prop := pushStepsRow.holds Tryz.pinned (OpenSpec.ofChange pushStepsWrong)

/-- 'puncheonlaw26.PushClosed': WHATEVER THE INPUT: true; the input reads as it did. -/
def pushClosedSpec : ChangeSpec := { name := "pushClosed", fn := fun _ => fun
  | [d1, d2] => { results := [.lit (.bool true)], args := [d1, d2] }
  | _ => none }
def pushClosedRow : OpenClaim := { program := "ytamimiomglipmaagreat", sum := "7723f2eddbf6e7c55cc368142371bba5ede27a8017b22733253ed0a379b00ebc", func := "puncheon/puncheonlaw26.PushClosed", spec := "pushClosed", unfollowed := true, recurses := true, apart := false }
def PushClosedSaid : Prop := pushClosedRow.holds Tryz.pinned (OpenSpec.ofChange pushClosedSpec)

/-- ITS FALSE NEIGHBOUR: 'it returns false'. Refute it at one input. -/
def pushClosedWrong : ChangeSpec := { name := "pushClosed", fn := fun _ => fun
  | [d1, d2] => { results := [.lit (.bool false)], args := [d1, d2] }
  | _ => none }
def PushClosedWrongFalsely : Prop := pushClosedRow.holds Tryz.pinned (OpenSpec.ofChange pushClosedWrong)

/-- 'puncheonlaw26.PushWhole': WHATEVER THE INPUT: true; the input reads as it did. -/
def pushWholeSpec : ChangeSpec := { name := "pushWhole", fn := fun _ => fun
  | [d1, d2, d3, d4, d5] => { results := [.lit (.bool true)], args := [d1, d2, d3, d4, d5] }
  | _ => none }
def pushWholeRow : OpenClaim := { program := "ytamimiomglipmaagreat", sum := "7723f2eddbf6e7c55cc368142371bba5ede27a8017b22733253ed0a379b00ebc", func := "puncheon/puncheonlaw26.PushWhole", spec := "pushWhole", unfollowed := true, recurses := true, apart := false }
def PushWholeSaid : Prop := pushWholeRow.holds Tryz.pinned (OpenSpec.ofChange pushWholeSpec)

/-- ITS FALSE NEIGHBOUR: 'it returns false'. Refute it at one input. -/
def pushWholeWrong : ChangeSpec := { name := "pushWhole", fn := fun _ => fun
  | [d1, d2, d3, d4, d5] => { results := [.lit (.bool false)], args := [d1, d2, d3, d4, d5] }
  | _ => none }
def PushWholeWrongFalsely : Prop := pushWholeRow.holds Tryz.pinned (OpenSpec.ofChange pushWholeWrong)

/-- 'puncheonlaw26.PushOwn': WHATEVER THE INPUT: true; the input reads as it did. -/
def pushOwnSpec : ChangeSpec := { name := "pushOwn", fn := fun _ => fun
  | [d1, d2, d3] => { results := [.lit (.bool true)], args := [d1, d2, d3] }
  | _ => none }
def pushOwnRow : OpenClaim := { program := "ytamimiomglipmaagreat", sum := "7723f2eddbf6e7c55cc368142371bba5ede27a8017b22733253ed0a379b00ebc", func := "puncheon/puncheonlaw26.PushOwn", spec := "pushOwn", unfollowed := true, recurses := true, apart := false }
def PushOwnSaid : Prop := pushOwnRow.holds Tryz.pinned (OpenSpec.ofChange pushOwnSpec)

/-- ITS FALSE NEIGHBOUR: 'it returns false'. Refute it at one input. -/
def pushOwnWrong : ChangeSpec := { name := "pushOwn", fn := fun _ => fun
  | [d1, d2, d3] => { results := [.lit (.bool false)], args := [d1, d2, d3] }
  | _ => none }
def PushOwnWrongFalsely : Prop := pushOwnRow.holds Tryz.pinned (OpenSpec.ofChange pushOwnWrong)

/-- 'puncheonlaw26.PushEmpty': WHATEVER THE INPUT: true; the input reads as it did. -/
def pushEmptySpec : ChangeSpec := { name := "pushEmpty", fn := fun _ => fun
  | [d1, d2, d3, d4, d5] => { results := [.lit (.bool true)], args := [d1, d2, d3, d4, d5] }
  | _ => none }
def pushEmptyRow : OpenClaim := { program := "ytamimiomglipmaagreat", sum := "7723f2eddbf6e7c55cc368142371bba5ede27a8017b22733253ed0a379b00ebc", func := "puncheon/puncheonlaw26.PushEmpty", spec := "pushEmpty", unfollowed := true, recurses := true, apart := false }
def PushEmptySaid : Prop := pushEmptyRow.holds Tryz.pinned (OpenSpec.ofChange pushEmptySpec)

/-- ITS FALSE NEIGHBOUR: 'it returns false'. Refute it at one input. -/
def pushEmptyWrong : ChangeSpec := { name := "pushEmpty", fn := fun _ => fun
  | [d1, d2, d3, d4, d5] => { results := [.lit (.bool false)], args := [d1, d2, d3, d4, d5] }
  | _ => none }
def PushEmptyWrongFalsely : Prop := pushEmptyRow.holds Tryz.pinned (OpenSpec.ofChange pushEmptyWrong)

/-- 'puncheonlaw24.FrameEncodes': WHATEVER THE INPUT: true; the input reads as it did. -/
def frameEncodesSpec : ChangeSpec := { name := "frameEncodes", fn := fun _ => fun
  | [d1, d2, d3, d4] => { results := [.lit (.bool true)], args := [d1, d2, d3, d4] }
  | _ => none }
def frameEncodesRow : OpenClaim := { program := "ytamimiomglipmaagreat", sum := "7723f2eddbf6e7c55cc368142371bba5ede27a8017b22733253ed0a379b00ebc", func := "puncheon/puncheonlaw24.FrameEncodes", spec := "frameEncodes", unfollowed := true, recurses := true, apart := false }
def FrameEncodesSaid : Prop := frameEncodesRow.holds Tryz.pinned (OpenSpec.ofChange frameEncodesSpec)

/-- ITS FALSE NEIGHBOUR: 'it returns false'. Refute it at one input. -/
def frameEncodesWrong : ChangeSpec := { name := "frameEncodes", fn := fun _ => fun
  | [d1, d2, d3, d4] => { results := [.lit (.bool false)], args := [d1, d2, d3, d4] }
  | _ => none }
def FrameEncodesWrongFalsely : Prop := frameEncodesRow.holds Tryz.pinned (OpenSpec.ofChange frameEncodesWrong)

/-- 'puncheonlaw24.FrameBack': WHATEVER THE INPUT: true; the input reads as it did. -/
def frameBackSpec : ChangeSpec := { name := "frameBack", fn := fun _ => fun
  | [d1, d2, d3, d4, d5] => { results := [.lit (.bool true)], args := [d1, d2, d3, d4, d5] }
  | _ => none }
def frameBackRow : OpenClaim := { program := "ytamimiomglipmaagreat", sum := "7723f2eddbf6e7c55cc368142371bba5ede27a8017b22733253ed0a379b00ebc", func := "puncheon/puncheonlaw24.FrameBack", spec := "frameBack", unfollowed := true, recurses := true, apart := false }
def FrameBackSaid : Prop := frameBackRow.holds Tryz.pinned (OpenSpec.ofChange frameBackSpec)

/-- ITS FALSE NEIGHBOUR: 'it returns false'. Refute it at one input. -/
def frameBackWrong : ChangeSpec := { name := "frameBack", fn := fun _ => fun
  | [d1, d2, d3, d4, d5] => { results := [.lit (.bool false)], args := [d1, d2, d3, d4, d5] }
  | _ => none }
def FrameBackWrongFalsely : Prop := frameBackRow.holds Tryz.pinned (OpenSpec.ofChange frameBackWrong)

/-- 'puncheonlaw24.FrameLength': WHATEVER THE INPUT: true; the input reads as it did. -/
def frameLengthSpec : ChangeSpec := { name := "frameLength", fn := fun _ => fun
  | [d1, d2, d3, d4] => { results := [.lit (.bool true)], args := [d1, d2, d3, d4] }
  | _ => none }
def frameLengthRow : OpenClaim := { program := "ytamimiomglipmaagreat", sum := "7723f2eddbf6e7c55cc368142371bba5ede27a8017b22733253ed0a379b00ebc", func := "puncheon/puncheonlaw24.FrameLength", spec := "frameLength", unfollowed := true, recurses := true, apart := false }
def FrameLengthSaid : Prop := frameLengthRow.holds Tryz.pinned (OpenSpec.ofChange frameLengthSpec)

/-- ITS FALSE NEIGHBOUR: 'it returns false'. Refute it at one input. -/
def frameLengthWrong : ChangeSpec := { name := "frameLength", fn := fun _ => fun
  | [d1, d2, d3, d4] => { results := [.lit (.bool false)], args := [d1, d2, d3, d4] }
  | _ => none }
def FrameLengthWrongFalsely : Prop := frameLengthRow.holds Tryz.pinned (OpenSpec.ofChange frameLengthWrong)

/-- 'puncheonlaw24.FrameCuts': WHATEVER THE INPUT: true; the input reads as it did. -/
def frameCutsSpec : ChangeSpec := { name := "frameCuts", fn := fun _ => fun
  | [d1, d2, d3, d4, d5] => { results := [.lit (.bool true)], args := [d1, d2, d3, d4, d5] }
  | _ => none }
def frameCutsRow : OpenClaim := { program := "ytamimiomglipmaagreat", sum := "7723f2eddbf6e7c55cc368142371bba5ede27a8017b22733253ed0a379b00ebc", func := "puncheon/puncheonlaw24.FrameCuts", spec := "frameCuts", unfollowed := true, recurses := true, apart := false }
def FrameCutsSaid : Prop := frameCutsRow.holds Tryz.pinned (OpenSpec.ofChange frameCutsSpec)

/-- ITS FALSE NEIGHBOUR: 'it returns false'. Refute it at one input. -/
def frameCutsWrong : ChangeSpec := { name := "frameCuts", fn := fun _ => fun
  | [d1, d2, d3, d4, d5] => { results := [.lit (.bool false)], args := [d1, d2, d3, d4, d5] }
  | _ => none }
def FrameCutsWrongFalsely : Prop := frameCutsRow.holds Tryz.pinned (OpenSpec.ofChange frameCutsWrong)

/-- 'puncheonlaw24.FrameSize': WHATEVER THE INPUT: true; the input reads as it did. -/
def frameSizeSpec : ChangeSpec := { name := "frameSize", fn := fun _ => fun
  | [d1, d2] => { results := [.lit (.bool true)], args := [d1, d2] }
  | _ => none }
def frameSizeRow : OpenClaim := { program := "ytamimiomglipmaagreat", sum := "7723f2eddbf6e7c55cc368142371bba5ede27a8017b22733253ed0a379b00ebc", func := "puncheon/puncheonlaw24.FrameSize", spec := "frameSize", unfollowed := true, recurses := true, apart := false }
def FrameSizeSaid : Prop := frameSizeRow.holds Tryz.pinned (OpenSpec.ofChange frameSizeSpec)

/-- ITS FALSE NEIGHBOUR: 'it returns false'. Refute it at one input. -/
def frameSizeWrong : ChangeSpec := { name := "frameSize", fn := fun _ => fun
  | [d1, d2] => { results := [.lit (.bool false)], args := [d1, d2] }
  | _ => none }
def FrameSizeWrongFalsely : Prop := frameSizeRow.holds Tryz.pinned (OpenSpec.ofChange frameSizeWrong)

/-- 'puncheonlaw24.FramePrefix': WHATEVER THE INPUT: true; the input reads as it did. -/
def framePrefixSpec : ChangeSpec := { name := "framePrefix", fn := fun _ => fun
  | [d1, d2, d3, d4, d5] => { results := [.lit (.bool true)], args := [d1, d2, d3, d4, d5] }
  | _ => none }
def framePrefixRow : OpenClaim := { program := "ytamimiomglipmaagreat", sum := "7723f2eddbf6e7c55cc368142371bba5ede27a8017b22733253ed0a379b00ebc", func := "puncheon/puncheonlaw24.FramePrefix", spec := "framePrefix", unfollowed := true, recurses := true, apart := false }
def FramePrefixSaid : Prop := framePrefixRow.holds Tryz.pinned (OpenSpec.ofChange framePrefixSpec)

/-- ITS FALSE NEIGHBOUR: 'it returns false'. Refute it at one input. -/
def framePrefixWrong : ChangeSpec := { name := "framePrefix", fn := fun _ => fun
  | [d1, d2, d3, d4, d5] => { results := [.lit (.bool false)], args := [d1, d2, d3, d4, d5] }
  | _ => none }
def FramePrefixWrongFalsely : Prop := framePrefixRow.holds Tryz.pinned (OpenSpec.ofChange framePrefixWrong)

/-- 'puncheonlaw26.PushLong': WHATEVER THE INPUT: true; the input reads as it did. -/
def pushLongSpec : ChangeSpec := { name := "pushLong", fn := fun _ => fun
  | [d1, d2, d3, d4, d5] => { results := [.lit (.bool true)], args := [d1, d2, d3, d4, d5] }
  | _ => none }
def pushLongRow : OpenClaim := { program := "ytamimiomglipmaagreat", sum := "7723f2eddbf6e7c55cc368142371bba5ede27a8017b22733253ed0a379b00ebc", func := "puncheon/puncheonlaw26.PushLong", spec := "pushLong", unfollowed := true, recurses := true, apart := false }
def PushLongSaid : Prop := pushLongRow.holds Tryz.pinned (OpenSpec.ofChange pushLongSpec)

/-- ITS FALSE NEIGHBOUR: 'it returns false'. Refute it at one input. -/
def pushLongWrong : ChangeSpec := { name := "pushLong", fn := fun _ => fun
  | [d1, d2, d3, d4, d5] => { results := [.lit (.bool false)], args := [d1, d2, d3, d4, d5] }
  | _ => none }
def PushLongWrongFalsely : Prop := pushLongRow.holds Tryz.pinned (OpenSpec.ofChange pushLongWrong)

/-- 'puncheonlaw27.PullBack': WHATEVER THE INPUT: true; the input reads as it did. -/
def pullBackSpec : ChangeSpec := { name := "pullBack", fn := fun _ => fun
  | [d1, d2, d3, d4] => { results := [.lit (.bool true)], args := [d1, d2, d3, d4] }
  | _ => none }
def pullBackRow : OpenClaim := { program := "ytamimiomglipmaagreat", sum := "7723f2eddbf6e7c55cc368142371bba5ede27a8017b22733253ed0a379b00ebc", func := "puncheon/puncheonlaw27.PullBack", spec := "pullBack", unfollowed := true, recurses := true, apart := false }
def PullBackSaid : Prop := pullBackRow.holds Tryz.pinned (OpenSpec.ofChange pullBackSpec)

/-- ITS FALSE NEIGHBOUR: 'it returns false'. Refute it at one input. -/
def pullBackWrong : ChangeSpec := { name := "pullBack", fn := fun _ => fun
  | [d1, d2, d3, d4] => { results := [.lit (.bool false)], args := [d1, d2, d3, d4] }
  | _ => none }
def PullBackWrongFalsely : Prop := pullBackRow.holds Tryz.pinned (OpenSpec.ofChange pullBackWrong)

/-- 'puncheonlaw27.PullOwn': WHATEVER THE INPUT: true; the input reads as it did. -/
def pullOwnSpec : ChangeSpec := { name := "pullOwn", fn := fun _ => fun
  | [d1, d2, d3] => { results := [.lit (.bool true)], args := [d1, d2, d3] }
  | _ => none }
def pullOwnRow : OpenClaim := { program := "ytamimiomglipmaagreat", sum := "7723f2eddbf6e7c55cc368142371bba5ede27a8017b22733253ed0a379b00ebc", func := "puncheon/puncheonlaw27.PullOwn", spec := "pullOwn", unfollowed := true, recurses := true, apart := false }
def PullOwnSaid : Prop := pullOwnRow.holds Tryz.pinned (OpenSpec.ofChange pullOwnSpec)

/-- ITS FALSE NEIGHBOUR: 'it returns false'. Refute it at one input. -/
def pullOwnWrong : ChangeSpec := { name := "pullOwn", fn := fun _ => fun
  | [d1, d2, d3] => { results := [.lit (.bool false)], args := [d1, d2, d3] }
  | _ => none }
def PullOwnWrongFalsely : Prop := pullOwnRow.holds Tryz.pinned (OpenSpec.ofChange pullOwnWrong)

/-- 'puncheonlaw27.PullEmpty': WHATEVER THE INPUT: true; the input reads as it did. -/
def pullEmptySpec : ChangeSpec := { name := "pullEmpty", fn := fun _ => fun
  | [d1, d2, d3] => { results := [.lit (.bool true)], args := [d1, d2, d3] }
  | _ => none }
def pullEmptyRow : OpenClaim := { program := "ytamimiomglipmaagreat", sum := "7723f2eddbf6e7c55cc368142371bba5ede27a8017b22733253ed0a379b00ebc", func := "puncheon/puncheonlaw27.PullEmpty", spec := "pullEmpty", unfollowed := true, recurses := true, apart := false }
def PullEmptySaid : Prop := pullEmptyRow.holds Tryz.pinned (OpenSpec.ofChange pullEmptySpec)

/-- ITS FALSE NEIGHBOUR: 'it returns false'. Refute it at one input. -/
def pullEmptyWrong : ChangeSpec := { name := "pullEmpty", fn := fun _ => fun
  | [d1, d2, d3] => { results := [.lit (.bool false)], args := [d1, d2, d3] }
  | _ => none }
def PullEmptyWrongFalsely : Prop := pullEmptyRow.holds Tryz.pinned (OpenSpec.ofChange pullEmptyWrong)

/-- 'puncheonlaw27.PullPrefix': WHATEVER THE INPUT: true; the input reads as it did. -/
def pullPrefixSpec : ChangeSpec := { name := "pullPrefix", fn := fun _ => fun
  | [d1, d2, d3] => { results := [.lit (.bool true)], args := [d1, d2, d3] }
  | _ => none }
def pullPrefixRow : OpenClaim := { program := "ytamimiomglipmaagreat", sum := "7723f2eddbf6e7c55cc368142371bba5ede27a8017b22733253ed0a379b00ebc", func := "puncheon/puncheonlaw27.PullPrefix", spec := "pullPrefix", unfollowed := true, recurses := true, apart := false }
def PullPrefixSaid : Prop := pullPrefixRow.holds Tryz.pinned (OpenSpec.ofChange pullPrefixSpec)

/-- ITS FALSE NEIGHBOUR: 'it returns false'. Refute it at one input. -/
def pullPrefixWrong : ChangeSpec := { name := "pullPrefix", fn := fun _ => fun
  | [d1, d2, d3] => { results := [.lit (.bool false)], args := [d1, d2, d3] }
  | _ => none }
def PullPrefixWrongFalsely : Prop := pullPrefixRow.holds Tryz.pinned (OpenSpec.ofChange pullPrefixWrong)

/- THE SECOND FORM. 'bulk': how many values and letters a reading holds, each counted each time it is reached (what is shared counts as often as it is met; a slice's spare places count too). A statement '..UptoSaid' is the law's where the arguments, and the package variables that the reading takes, are together of bulk at most 1048576: NARROWER than '..Said'. Prove '..Said' where nothing that the law and all that it calls make is longer than what came in: it says more and counts as full. Else prove '..UptoSaid'. A law counts once. -/
mutual
def uptoBulk {H : Type} : DataW H → Nat
  | .lit (.string bytes) => bytes.length + 1
  | .lit _ => 1
  | .nil => 1
  | .ptr d => uptoBulk d + 1
  | .slice elems spare => uptoBulkAll elems + uptoBulkAll spare + 1
  | .agg parts => uptoBulkAll parts + 1
  | .iface _ d => uptoBulk d + 1
  | .map entries => uptoBulkEntries entries + 1
  | .held _ => 1
def uptoBulkAll {H : Type} : List (DataW H) → Nat
  | [] => 0
  | d :: r => uptoBulk d + uptoBulkAll r
def uptoBulkEntries {H : Type} : List (Lit × DataW H) → Nat
  | [] => 0
  | x :: r => uptoBulkEntry x + uptoBulkEntries r
def uptoBulkEntry {H : Type} : Lit × DataW H → Nat
  | (.string bytes, d) => bytes.length + uptoBulk d + 1
  | (_, d) => uptoBulk d + 1
 end
def uptoSmall : (H : Type) → List (DataW H) → Bool := fun _ ds => decide (uptoBulkAll ds ≤ 1048576)
def OpenSpec.upto (s : _root_.Go.ChangeSpec) : _root_.Go.OpenSpec := { _root_.Go.OpenSpec.ofChange s with cond := some uptoSmall }

/-- 'puncheonlaw26.PushNew', WHERE WHAT IT READS IS OF BULK AT MOST 1048576: true; the input reads as it did. -/
def pushNewUptoRow : OpenClaim := { program := "ytamimiomglipmaagreat", sum := "7723f2eddbf6e7c55cc368142371bba5ede27a8017b22733253ed0a379b00ebc", func := "puncheon/puncheonlaw26.PushNew", spec := "pushNew", unfollowed := true, recurses := true, apart := false, narrowed := true }
def PushNewUptoSaid : Prop := pushNewUptoRow.holds Tryz.pinned (OpenSpec.upto pushNewSpec)

/-- 'puncheonlaw26.PushSteps', WHERE WHAT IT READS IS OF BULK AT MOST 1048576: true; the input reads as it did. -/
def pushStepsUptoRow : OpenClaim := { program := "ytamimiomglipmaagreat", sum := "7723f2eddbf6e7c55cc368142371bba5ede27a8017b22733253ed0a379b00ebc", func := "puncheon/puncheonlaw26.PushSteps", spec := "pushSteps", unfollowed := true, recurses := true, apart := false, narrowed := true }
def PushStepsUptoSaid : Prop := pushStepsUptoRow.holds Tryz.pinned (OpenSpec.upto pushStepsSpec)

/-- 'puncheonlaw26.PushClosed', WHERE WHAT IT READS IS OF BULK AT MOST 1048576: true; the input reads as it did. -/
def pushClosedUptoRow : OpenClaim := { program := "ytamimiomglipmaagreat", sum := "7723f2eddbf6e7c55cc368142371bba5ede27a8017b22733253ed0a379b00ebc", func := "puncheon/puncheonlaw26.PushClosed", spec := "pushClosed", unfollowed := true, recurses := true, apart := false, narrowed := true }
def PushClosedUptoSaid : Prop := pushClosedUptoRow.holds Tryz.pinned (OpenSpec.upto pushClosedSpec)

/-- 'puncheonlaw26.PushWhole', WHERE WHAT IT READS IS OF BULK AT MOST 1048576: true; the input reads as it did. -/
def pushWholeUptoRow : OpenClaim := { program := "ytamimiomglipmaagreat", sum := "7723f2eddbf6e7c55cc368142371bba5ede27a8017b22733253ed0a379b00ebc", func := "puncheon/puncheonlaw26.PushWhole", spec := "pushWhole", unfollowed := true, recurses := true, apart := false, narrowed := true }
def PushWholeUptoSaid : Prop := pushWholeUptoRow.holds Tryz.pinned (OpenSpec.upto pushWholeSpec)

/-- 'puncheonlaw26.PushOwn', WHERE WHAT IT READS IS OF BULK AT MOST 1048576: true; the input reads as it did. -/
def pushOwnUptoRow : OpenClaim := { program := "ytamimiomglipmaagreat", sum := "7723f2eddbf6e7c55cc368142371bba5ede27a8017b22733253ed0a379b00ebc", func := "puncheon/puncheonlaw26.PushOwn", spec := "pushOwn", unfollowed := true, recurses := true, apart := false, narrowed := true }
def PushOwnUptoSaid : Prop := pushOwnUptoRow.holds Tryz.pinned (OpenSpec.upto pushOwnSpec)

/-- 'puncheonlaw26.PushEmpty', WHERE WHAT IT READS IS OF BULK AT MOST 1048576: true; the input reads as it did. -/
def pushEmptyUptoRow : OpenClaim := { program := "ytamimiomglipmaagreat", sum := "7723f2eddbf6e7c55cc368142371bba5ede27a8017b22733253ed0a379b00ebc", func := "puncheon/puncheonlaw26.PushEmpty", spec := "pushEmpty", unfollowed := true, recurses := true, apart := false, narrowed := true }
def PushEmptyUptoSaid : Prop := pushEmptyUptoRow.holds Tryz.pinned (OpenSpec.upto pushEmptySpec)

/-- 'puncheonlaw24.FrameEncodes', WHERE WHAT IT READS IS OF BULK AT MOST 1048576: true; the input reads as it did. -/
def frameEncodesUptoRow : OpenClaim := { program := "ytamimiomglipmaagreat", sum := "7723f2eddbf6e7c55cc368142371bba5ede27a8017b22733253ed0a379b00ebc", func := "puncheon/puncheonlaw24.FrameEncodes", spec := "frameEncodes", unfollowed := true, recurses := true, apart := false, narrowed := true }
def FrameEncodesUptoSaid : Prop := frameEncodesUptoRow.holds Tryz.pinned (OpenSpec.upto frameEncodesSpec)

/-- 'puncheonlaw24.FrameBack', WHERE WHAT IT READS IS OF BULK AT MOST 1048576: true; the input reads as it did. -/
def frameBackUptoRow : OpenClaim := { program := "ytamimiomglipmaagreat", sum := "7723f2eddbf6e7c55cc368142371bba5ede27a8017b22733253ed0a379b00ebc", func := "puncheon/puncheonlaw24.FrameBack", spec := "frameBack", unfollowed := true, recurses := true, apart := false, narrowed := true }
def FrameBackUptoSaid : Prop := frameBackUptoRow.holds Tryz.pinned (OpenSpec.upto frameBackSpec)

/-- 'puncheonlaw24.FrameLength', WHERE WHAT IT READS IS OF BULK AT MOST 1048576: true; the input reads as it did. -/
def frameLengthUptoRow : OpenClaim := { program := "ytamimiomglipmaagreat", sum := "7723f2eddbf6e7c55cc368142371bba5ede27a8017b22733253ed0a379b00ebc", func := "puncheon/puncheonlaw24.FrameLength", spec := "frameLength", unfollowed := true, recurses := true, apart := false, narrowed := true }
def FrameLengthUptoSaid : Prop := frameLengthUptoRow.holds Tryz.pinned (OpenSpec.upto frameLengthSpec)

/-- 'puncheonlaw24.FrameCuts', WHERE WHAT IT READS IS OF BULK AT MOST 1048576: true; the input reads as it did. -/
def frameCutsUptoRow : OpenClaim := { program := "ytamimiomglipmaagreat", sum := "7723f2eddbf6e7c55cc368142371bba5ede27a8017b22733253ed0a379b00ebc", func := "puncheon/puncheonlaw24.FrameCuts", spec := "frameCuts", unfollowed := true, recurses := true, apart := false, narrowed := true }
def FrameCutsUptoSaid : Prop := frameCutsUptoRow.holds Tryz.pinned (OpenSpec.upto frameCutsSpec)

/-- 'puncheonlaw24.FrameSize', WHERE WHAT IT READS IS OF BULK AT MOST 1048576: true; the input reads as it did. -/
def frameSizeUptoRow : OpenClaim := { program := "ytamimiomglipmaagreat", sum := "7723f2eddbf6e7c55cc368142371bba5ede27a8017b22733253ed0a379b00ebc", func := "puncheon/puncheonlaw24.FrameSize", spec := "frameSize", unfollowed := true, recurses := true, apart := false, narrowed := true }
def FrameSizeUptoSaid : Prop := frameSizeUptoRow.holds Tryz.pinned (OpenSpec.upto frameSizeSpec)

/-- 'puncheonlaw24.FramePrefix', WHERE WHAT IT READS IS OF BULK AT MOST 1048576: true; the input reads as it did. -/
def framePrefixUptoRow : OpenClaim := { program := "ytamimiomglipmaagreat", sum := "7723f2eddbf6e7c55cc368142371bba5ede27a8017b22733253ed0a379b00ebc", func := "puncheon/puncheonlaw24.FramePrefix", spec := "framePrefix", unfollowed := true, recurses := true, apart := false, narrowed := true }
def FramePrefixUptoSaid : Prop := framePrefixUptoRow.holds Tryz.pinned (OpenSpec.upto framePrefixSpec)

/-- 'puncheonlaw26.PushLong', WHERE WHAT IT READS IS OF BULK AT MOST 1048576: true; the input reads as it did. -/
def pushLongUptoRow : OpenClaim := { program := "ytamimiomglipmaagreat", sum := "7723f2eddbf6e7c55cc368142371bba5ede27a8017b22733253ed0a379b00ebc", func := "puncheon/puncheonlaw26.PushLong", spec := "pushLong", unfollowed := true, recurses := true, apart := false, narrowed := true }
def PushLongUptoSaid : Prop := pushLongUptoRow.holds Tryz.pinned (OpenSpec.upto pushLongSpec)

/-- 'puncheonlaw27.PullBack', WHERE WHAT IT READS IS OF BULK AT MOST 1048576: true; the input reads as it did. -/
def pullBackUptoRow : OpenClaim := { program := "ytamimiomglipmaagreat", sum := "7723f2eddbf6e7c55cc368142371bba5ede27a8017b22733253ed0a379b00ebc", func := "puncheon/puncheonlaw27.PullBack", spec := "pullBack", unfollowed := true, recurses := true, apart := false, narrowed := true }
def PullBackUptoSaid : Prop := pullBackUptoRow.holds Tryz.pinned (OpenSpec.upto pullBackSpec)

/-- 'puncheonlaw27.PullOwn', WHERE WHAT IT READS IS OF BULK AT MOST 1048576: true; the input reads as it did. -/
def pullOwnUptoRow : OpenClaim := { program := "ytamimiomglipmaagreat", sum := "7723f2eddbf6e7c55cc368142371bba5ede27a8017b22733253ed0a379b00ebc", func := "puncheon/puncheonlaw27.PullOwn", spec := "pullOwn", unfollowed := true, recurses := true, apart := false, narrowed := true }
def PullOwnUptoSaid : Prop := pullOwnUptoRow.holds Tryz.pinned (OpenSpec.upto pullOwnSpec)

/-- 'puncheonlaw27.PullEmpty', WHERE WHAT IT READS IS OF BULK AT MOST 1048576: true; the input reads as it did. -/
def pullEmptyUptoRow : OpenClaim := { program := "ytamimiomglipmaagreat", sum := "7723f2eddbf6e7c55cc368142371bba5ede27a8017b22733253ed0a379b00ebc", func := "puncheon/puncheonlaw27.PullEmpty", spec := "pullEmpty", unfollowed := true, recurses := true, apart := false, narrowed := true }
def PullEmptyUptoSaid : Prop := pullEmptyUptoRow.holds Tryz.pinned (OpenSpec.upto pullEmptySpec)

/-- 'puncheonlaw27.PullPrefix', WHERE WHAT IT READS IS OF BULK AT MOST 1048576: true; the input reads as it did. -/
def pullPrefixUptoRow : OpenClaim := { program := "ytamimiomglipmaagreat", sum := "7723f2eddbf6e7c55cc368142371bba5ede27a8017b22733253ed0a379b00ebc", func := "puncheon/puncheonlaw27.PullPrefix", spec := "pullPrefix", unfollowed := true, recurses := true, apart := false, narrowed := true }
def PullPrefixUptoSaid : Prop := pullPrefixUptoRow.holds Tryz.pinned (OpenSpec.upto pullPrefixSpec)

end Rows
end Go.Proofs.YtamimiomglipmaaGreat
