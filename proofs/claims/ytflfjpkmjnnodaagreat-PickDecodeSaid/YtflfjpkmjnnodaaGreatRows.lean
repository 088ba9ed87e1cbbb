/-
  No cell of these rows narrows 'for every input' (looked for: loops, veiled, ifaces, maps, wideKeys, modest, calm, conditions, laid).
  DERIVED. THE GIVEN ROWS OF THIS SEAT. 17 by the template 'for every input the law returns true; each argument reads behind the call as it read before'; 0 by the template 'total and deterministic' (their statements: YtflfjpkmjnnodaaGreatTotals.lean).
  GIVEN WITH THE SEED: the statements are not yours to turn. If you find one false, say at which input.
  Laid BY PROGRAM, IN A SANDBOX (cutbox-rows.mjs): the forced cells as the released guide's own fill.sh prints them over the translation b8d6a873c4e37fab… (all of the seat's roots in one cut). By AI agents, Wed Nov 11 2026. No macro, syntax, notation, axiom, sorry.
-/
import Derived.Test.YtflfjpkmjnnodaaGreatChecked
import GoSem.Claim
import GoSem.ClaimJoined
import GoSem.ClaimMapViews
import Derived.JoinedTies
import Derived.KernelRfl
namespace Go.Proofs.YtflfjpkmjnnodaaGreat
/- THE CELL 'sum', in the pinned program and in every row, IS THE sha256 OF THE DUMP (.gsa) THAT YtflfjpkmjnnodaaGreatProg.lean LOADS. Nothing in Lean hashes anything: it is a label: what it is worth is what the hold of that sum in a sandbox is worth. -/
noncomputable def Tryz.pinned : Pinned := { name := "ytflfjpkmjnnodaagreat", sum := "b8d6a873c4e37fab45e70f7c8f49dbbc845f2dad14446e7d8107e38219683f07", checked := Tryz.checked }
namespace Rows
def none {H : Type} : Left H := { results := [], args := [] }

/-- 'puncheonlaw20.Body1Decode': WHATEVER THE INPUT: true; the input reads as it did. -/
def body1DecodeSpec : ChangeSpec := { name := "body1Decode", fn := fun _ => fun
  | [d1, d2] => { results := [.lit (.bool true)], args := [d1, d2] }
  | _ => none }
def body1DecodeRow : OpenClaim := { program := "ytflfjpkmjnnodaagreat", sum := "b8d6a873c4e37fab45e70f7c8f49dbbc845f2dad14446e7d8107e38219683f07", func := "puncheon/puncheonlaw20.Body1Decode", spec := "body1Decode", unfollowed := true, recurses := true, apart := false }
def Body1DecodeSaid : Prop := body1DecodeRow.holds Tryz.pinned (OpenSpec.ofChange body1DecodeSpec)

/-- ITS FALSE NEIGHBOUR: 'it returns false'. Refute it at one input. -/
def body1DecodeWrong : ChangeSpec := { name := "body1Decode", fn := fun _ => fun
  | [d1, d2] => { results := [.lit (.bool false)], args := [d1, d2] }
  | _ => none }
def Body1DecodeWrongFalsely : Prop := body1DecodeRow.holds Tryz.pinned (OpenSpec.ofChange body1DecodeWrong)

/-- 'puncheonlaw22.PickDecode': WHATEVER THE INPUT: true; the input reads as it did. -/
def pickDecodeSpec : ChangeSpec := { name := "pickDecode", fn := fun _ => fun
  | [d1, d2, d3, d4] => { results := [.lit (.bool true)], args := [d1, d2, d3, d4] }
  | _ => none }
def pickDecodeRow : OpenClaim := { program := "ytflfjpkmjnnodaagreat", sum := "b8d6a873c4e37fab45e70f7c8f49dbbc845f2dad14446e7d8107e38219683f07", func := "puncheon/puncheonlaw22.PickDecode", spec := "pickDecode", unfollowed := true, recurses := true, apart := false }
def PickDecodeSaid : Prop := pickDecodeRow.holds Tryz.pinned (OpenSpec.ofChange pickDecodeSpec)

/-- ITS FALSE NEIGHBOUR: 'it returns false'. Refute it at one input. -/
def pickDecodeWrong : ChangeSpec := { name := "pickDecode", fn := fun _ => fun
  | [d1, d2, d3, d4] => { results := [.lit (.bool false)], args := [d1, d2, d3, d4] }
  | _ => none }
def PickDecodeWrongFalsely : Prop := pickDecodeRow.holds Tryz.pinned (OpenSpec.ofChange pickDecodeWrong)

/-- 'puncheonlaw23.BlockPuts': WHATEVER THE INPUT: true; the input reads as it did. -/
def blockPutsSpec : ChangeSpec := { name := "blockPuts", fn := fun _ => fun
  | [d1, d2] => { results := [.lit (.bool true)], args := [d1, d2] }
  | _ => none }
def blockPutsRow : OpenClaim := { program := "ytflfjpkmjnnodaagreat", sum := "b8d6a873c4e37fab45e70f7c8f49dbbc845f2dad14446e7d8107e38219683f07", func := "puncheon/puncheonlaw23.BlockPuts", spec := "blockPuts", unfollowed := true, recurses := true, apart := false }
def BlockPutsSaid : Prop := blockPutsRow.holds Tryz.pinned (OpenSpec.ofChange blockPutsSpec)

/-- ITS FALSE NEIGHBOUR: 'it returns false'. Refute it at one input. -/
def blockPutsWrong : ChangeSpec := { name := "blockPuts", fn := fun _ => fun
  | [d1, d2] => { results := [.lit (.bool false)], args := [d1, d2] }
  | _ => none }
def BlockPutsWrongFalsely : Prop := blockPutsRow.holds Tryz.pinned (OpenSpec.ofChange blockPutsWrong)

/-- 'puncheonlaw23.BlockOpens': WHATEVER THE INPUT: true; the input reads as it did. -/
def blockOpensSpec : ChangeSpec := { name := "blockOpens", fn := fun _ => fun
  | [d1, d2, d3, d4] => { results := [.lit (.bool true)], args := [d1, d2, d3, d4] }
  | _ => none }
def blockOpensRow : OpenClaim := { program := "ytflfjpkmjnnodaagreat", sum := "b8d6a873c4e37fab45e70f7c8f49dbbc845f2dad14446e7d8107e38219683f07", func := "puncheon/puncheonlaw23.BlockOpens", spec := "blockOpens", unfollowed := true, recurses := true, apart := false }
def BlockOpensSaid : Prop := blockOpensRow.holds Tryz.pinned (OpenSpec.ofChange blockOpensSpec)

/-- ITS FALSE NEIGHBOUR: 'it returns false'. Refute it at one input. -/
def blockOpensWrong : ChangeSpec := { name := "blockOpens", fn := fun _ => fun
  | [d1, d2, d3, d4] => { results := [.lit (.bool false)], args := [d1, d2, d3, d4] }
  | _ => none }
def BlockOpensWrongFalsely : Prop := blockOpensRow.holds Tryz.pinned (OpenSpec.ofChange blockOpensWrong)

/-- 'puncheonlaw24.FrameEncodes': WHATEVER THE INPUT: true; the input reads as it did. -/
def frameEncodesSpec : ChangeSpec := { name := "frameEncodes", fn := fun _ => fun
  | [d1, d2, d3, d4] => { results := [.lit (.bool true)], args := [d1, d2, d3, d4] }
  | _ => none }
def frameEncodesRow : OpenClaim := { program := "ytflfjpkmjnnodaagreat", sum := "b8d6a873c4e37fab45e70f7c8f49dbbc845f2dad14446e7d8107e38219683f07", func := "puncheon/puncheonlaw24.FrameEncodes", spec := "frameEncodes", unfollowed := true, recurses := true, apart := false }
def FrameEncodesSaid : Prop := frameEncodesRow.holds Tryz.pinned (OpenSpec.ofChange frameEncodesSpec)

/-- ITS FALSE NEIGHBOUR: 'it returns false'. Refute it at one input. -/
def frameEncodesWrong : ChangeSpec := { name := "frameEncodes", fn := fun _ => fun
  | [d1, d2, d3, d4] => { results := [.lit (.bool false)], args := [d1, d2, d3, d4] }
  | _ => none }
def FrameEncodesWrongFalsely : Prop := frameEncodesRow.holds Tryz.pinned (OpenSpec.ofChange frameEncodesWrong)

/-- 'puncheonlaw24.FrameReads': WHATEVER THE INPUT: true; the input reads as it did. -/
def frameReadsSpec : ChangeSpec := { name := "frameReads", fn := fun _ => fun
  | [d1, d2] => { results := [.lit (.bool true)], args := [d1, d2] }
  | _ => none }
def frameReadsRow : OpenClaim := { program := "ytflfjpkmjnnodaagreat", sum := "b8d6a873c4e37fab45e70f7c8f49dbbc845f2dad14446e7d8107e38219683f07", func := "puncheon/puncheonlaw24.FrameReads", spec := "frameReads", unfollowed := true, recurses := true, apart := false }
def FrameReadsSaid : Prop := frameReadsRow.holds Tryz.pinned (OpenSpec.ofChange frameReadsSpec)

/-- ITS FALSE NEIGHBOUR: 'it returns false'. Refute it at one input. -/
def frameReadsWrong : ChangeSpec := { name := "frameReads", fn := fun _ => fun
  | [d1, d2] => { results := [.lit (.bool false)], args := [d1, d2] }
  | _ => none }
def FrameReadsWrongFalsely : Prop := frameReadsRow.holds Tryz.pinned (OpenSpec.ofChange frameReadsWrong)

/-- 'puncheonlaw24.FrameBack': WHATEVER THE INPUT: true; the input reads as it did. -/
def frameBackSpec : ChangeSpec := { name := "frameBack", fn := fun _ => fun
  | [d1, d2, d3, d4, d5] => { results := [.lit (.bool true)], args := [d1, d2, d3, d4, d5] }
  | _ => none }
def frameBackRow : OpenClaim := { program := "ytflfjpkmjnnodaagreat", sum := "b8d6a873c4e37fab45e70f7c8f49dbbc845f2dad14446e7d8107e38219683f07", func := "puncheon/puncheonlaw24.FrameBack", spec := "frameBack", unfollowed := true, recurses := true, apart := false }
def FrameBackSaid : Prop := frameBackRow.holds Tryz.pinned (OpenSpec.ofChange frameBackSpec)

/-- ITS FALSE NEIGHBOUR: 'it returns false'. Refute it at one input. -/
def frameBackWrong : ChangeSpec := { name := "frameBack", fn := fun _ => fun
  | [d1, d2, d3, d4, d5] => { results := [.lit (.bool false)], args := [d1, d2, d3, d4, d5] }
  | _ => none }
def FrameBackWrongFalsely : Prop := frameBackRow.holds Tryz.pinned (OpenSpec.ofChange frameBackWrong)

/-- 'puncheonlaw24.FrameLength': WHATEVER THE INPUT: true; the input reads as it did. -/
def frameLengthSpec : ChangeSpec := { name := "frameLength", fn := fun _ => fun
  | [d1, d2, d3, d4] => { results := [.lit (.bool true)], args := [d1, d2, d3, d4] }
  | _ => none }
def frameLengthRow : OpenClaim := { program := "ytflfjpkmjnnodaagreat", sum := "b8d6a873c4e37fab45e70f7c8f49dbbc845f2dad14446e7d8107e38219683f07", func := "puncheon/puncheonlaw24.FrameLength", spec := "frameLength", unfollowed := true, recurses := true, apart := false }
def FrameLengthSaid : Prop := frameLengthRow.holds Tryz.pinned (OpenSpec.ofChange frameLengthSpec)

/-- ITS FALSE NEIGHBOUR: 'it returns false'. Refute it at one input. -/
def frameLengthWrong : ChangeSpec := { name := "frameLength", fn := fun _ => fun
  | [d1, d2, d3, d4] => { results := [.lit (.bool false)], args := [d1, d2, d3, d4] }
  | _ => none }
def FrameLengthWrongFalsely : Prop := frameLengthRow.holds Tryz.pinned (OpenSpec.ofChange frameLengthWrong)

/-- 'puncheonlaw24.FrameCuts': WHATEVER THE INPUT: true; the input reads as it did. -/
def frameCutsSpec : ChangeSpec := { name := "frameCuts", fn := fun _ => fun
  | [d1, d2, d3, d4, d5] => { results := [.lit (.bool true)], args := [d1, d2, d3, d4, d5] }
  | _ => none }
def frameCutsRow : OpenClaim := { program := "ytflfjpkmjnnodaagreat", sum := "b8d6a873c4e37fab45e70f7c8f49dbbc845f2dad14446e7d8107e38219683f07", func := "puncheon/puncheonlaw24.FrameCuts", spec := "frameCuts", unfollowed := true, recurses := true, apart := false }
def FrameCutsSaid : Prop := frameCutsRow.holds Tryz.pinned (OpenSpec.ofChange frameCutsSpec)

/-- ITS FALSE NEIGHBOUR: 'it returns false'. Refute it at one input. -/
def frameCutsWrong : ChangeSpec := { name := "frameCuts", fn := fun _ => fun
  | [d1, d2, d3, d4, d5] => { results := [.lit (.bool false)], args := [d1, d2, d3, d4, d5] }
  | _ => none }
def FrameCutsWrongFalsely : Prop := frameCutsRow.holds Tryz.pinned (OpenSpec.ofChange frameCutsWrong)

/-- 'puncheonlaw24.FrameSize': WHATEVER THE INPUT: true; the input reads as it did. -/
def frameSizeSpec : ChangeSpec := { name := "frameSize", fn := fun _ => fun
  | [d1, d2] => { results := [.lit (.bool true)], args := [d1, d2] }
  | _ => none }
def frameSizeRow : OpenClaim := { program := "ytflfjpkmjnnodaagreat", sum := "b8d6a873c4e37fab45e70f7c8f49dbbc845f2dad14446e7d8107e38219683f07", func := "puncheon/puncheonlaw24.FrameSize", spec := "frameSize", unfollowed := true, recurses := true, apart := false }
def FrameSizeSaid : Prop := frameSizeRow.holds Tryz.pinned (OpenSpec.ofChange frameSizeSpec)

/-- ITS FALSE NEIGHBOUR: 'it returns false'. Refute it at one input. -/
def frameSizeWrong : ChangeSpec := { name := "frameSize", fn := fun _ => fun
  | [d1, d2] => { results := [.lit (.bool false)], args := [d1, d2] }
  | _ => none }
def FrameSizeWrongFalsely : Prop := frameSizeRow.holds Tryz.pinned (OpenSpec.ofChange frameSizeWrong)

/-- 'puncheonlaw24.FramePrefix': WHATEVER THE INPUT: true; the input reads as it did. -/
def framePrefixSpec : ChangeSpec := { name := "framePrefix", fn := fun _ => fun
  | [d1, d2, d3, d4, d5] => { results := [.lit (.bool true)], args := [d1, d2, d3, d4, d5] }
  | _ => none }
def framePrefixRow : OpenClaim := { program := "ytflfjpkmjnnodaagreat", sum := "b8d6a873c4e37fab45e70f7c8f49dbbc845f2dad14446e7d8107e38219683f07", func := "puncheon/puncheonlaw24.FramePrefix", spec := "framePrefix", unfollowed := true, recurses := true, apart := false }
def FramePrefixSaid : Prop := framePrefixRow.holds Tryz.pinned (OpenSpec.ofChange framePrefixSpec)

/-- ITS FALSE NEIGHBOUR: 'it returns false'. Refute it at one input. -/
def framePrefixWrong : ChangeSpec := { name := "framePrefix", fn := fun _ => fun
  | [d1, d2, d3, d4, d5] => { results := [.lit (.bool false)], args := [d1, d2, d3, d4, d5] }
  | _ => none }
def FramePrefixWrongFalsely : Prop := framePrefixRow.holds Tryz.pinned (OpenSpec.ofChange framePrefixWrong)

/-- 'puncheonlaw26.PushLong': WHATEVER THE INPUT: true; the input reads as it did. -/
def pushLongSpec : ChangeSpec := { name := "pushLong", fn := fun _ => fun
  | [d1, d2, d3, d4, d5] => { results := [.lit (.bool true)], args := [d1, d2, d3, d4, d5] }
  | _ => none }
def pushLongRow : OpenClaim := { program := "ytflfjpkmjnnodaagreat", sum := "b8d6a873c4e37fab45e70f7c8f49dbbc845f2dad14446e7d8107e38219683f07", func := "puncheon/puncheonlaw26.PushLong", spec := "pushLong", unfollowed := true, recurses := true, apart := false }
def PushLongSaid : Prop := pushLongRow.holds Tryz.pinned (OpenSpec.ofChange pushLongSpec)

/-- ITS FALSE NEIGHBOUR: 'it returns false'. Refute it at one input. -/
def pushLongWrong : ChangeSpec := { name := "pushLong", fn := fun _ => fun
  | [d1, d2, d3, d4, d5] => { results := [.lit (.bool false)], args := [d1, d2, d3, d4, d5] }
  | _ => none }
def PushLongWrongFalsely : Prop := pushLongRow.holds Tryz.pinned (OpenSpec.ofChange pushLongWrong)

/-- 'puncheonlaw27.PullTells': WHATEVER THE INPUT: true; the input reads as it did. -/
def pullTellsSpec : ChangeSpec := { name := "pullTells", fn := fun _ => fun
  | [d1, d2, d3] => { results := [.lit (.bool true)], args := [d1, d2, d3] }
  | _ => none }
def pullTellsRow : OpenClaim := { program := "ytflfjpkmjnnodaagreat", sum := "b8d6a873c4e37fab45e70f7c8f49dbbc845f2dad14446e7d8107e38219683f07", func := "puncheon/puncheonlaw27.PullTells", spec := "pullTells", unfollowed := true, recurses := true, apart := false }
def PullTellsSaid : Prop := pullTellsRow.holds Tryz.pinned (OpenSpec.ofChange pullTellsSpec)

/-- ITS FALSE NEIGHBOUR: 'it returns false'. Refute it at one input. -/
def pullTellsWrong : ChangeSpec := { name := "pullTells", fn := fun _ => fun
  | [d1, d2, d3] => { results := [.lit (.bool false)], args := [d1, d2, d3] }
  | _ => none }
def PullTellsWrongFalsely : Prop := pullTellsRow.holds Tryz.pinned (OpenSpec.ofChange pullTellsWrong)

/-- 'puncheonlaw27.PullBack': WHATEVER THE INPUT: true; the input reads as it did. -/
def pullBackSpec : ChangeSpec := { name := "pullBack", fn := fun _ => fun
  | [d1, d2, d3, d4] => { results := [.lit (.bool true)], args := [d1, d2, d3, d4] }
  | _ => none }
def pullBackRow : OpenClaim := { program := "ytflfjpkmjnnodaagreat", sum := "b8d6a873c4e37fab45e70f7c8f49dbbc845f2dad14446e7d8107e38219683f07", func := "puncheon/puncheonlaw27.PullBack", spec := "pullBack", unfollowed := true, recurses := true, apart := false }
def PullBackSaid : Prop := pullBackRow.holds Tryz.pinned (OpenSpec.ofChange pullBackSpec)

/-- ITS FALSE NEIGHBOUR: 'it returns false'. Refute it at one input. -/
def pullBackWrong : ChangeSpec := { name := "pullBack", fn := fun _ => fun
  | [d1, d2, d3, d4] => { results := [.lit (.bool false)], args := [d1, d2, d3, d4] }
  | _ => none }
def PullBackWrongFalsely : Prop := pullBackRow.holds Tryz.pinned (OpenSpec.ofChange pullBackWrong)

/-- 'puncheonlaw27.PullOwn': WHATEVER THE INPUT: true; the input reads as it did. -/
def pullOwnSpec : ChangeSpec := { name := "pullOwn", fn := fun _ => fun
  | [d1, d2, d3] => { results := [.lit (.bool true)], args := [d1, d2, d3] }
  | _ => none }
def pullOwnRow : OpenClaim := { program := "ytflfjpkmjnnodaagreat", sum := "b8d6a873c4e37fab45e70f7c8f49dbbc845f2dad14446e7d8107e38219683f07", func := "puncheon/puncheonlaw27.PullOwn", spec := "pullOwn", unfollowed := true, recurses := true, apart := false }
def PullOwnSaid : Prop := pullOwnRow.holds Tryz.pinned (OpenSpec.ofChange pullOwnSpec)

/-- ITS FALSE NEIGHBOUR: 'it returns false'. Refute it at one input. -/
def pullOwnWrong : ChangeSpec := { name := "pullOwn", fn := fun _ => fun
  | [d1, d2, d3] => { results := [.lit (.bool false)], args := [d1, d2, d3] }
  | _ => none }
def PullOwnWrongFalsely : Prop := pullOwnRow.holds Tryz.pinned (OpenSpec.ofChange pullOwnWrong)

/-- 'puncheonlaw27.PullEmpty': WHATEVER THE INPUT: true; the input reads as it did. -/
def pullEmptySpec : ChangeSpec := { name := "pullEmpty", fn := fun _ => fun
  | [d1, d2, d3] => { results := [.lit (.bool true)], args := [d1, d2, d3] }
  | _ => none }
def pullEmptyRow : OpenClaim := { program := "ytflfjpkmjnnodaagreat", sum := "b8d6a873c4e37fab45e70f7c8f49dbbc845f2dad14446e7d8107e38219683f07", func := "puncheon/puncheonlaw27.PullEmpty", spec := "pullEmpty", unfollowed := true, recurses := true, apart := false }
def PullEmptySaid : Prop := pullEmptyRow.holds Tryz.pinned (OpenSpec.ofChange pullEmptySpec)

/-- ITS FALSE NEIGHBOUR: 'it returns false'. Refute it at one input. -/
def pullEmptyWrong : ChangeSpec := { name := "pullEmpty", fn := fun _ => fun
  | [d1, d2, d3] => { results := [.lit (.bool false)], args := [d1, d2, d3] }
  | _ => none }
def PullEmptyWrongFalsely : Prop := pullEmptyRow.holds Tryz.pinned (OpenSpec.ofChange pullEmptyWrong)

/-- 'puncheonlaw27.PullPrefix': WHATEVER THE INPUT: true; the input reads as it did. -/
def pullPrefixSpec : ChangeSpec := { name := "pullPrefix", fn := fun _ => fun
  | [d1, d2, d3] => { results := [.lit (.bool true)], args := [d1, d2, d3] }
  | _ => none }
def pullPrefixRow : OpenClaim := { program := "ytflfjpkmjnnodaagreat", sum := "b8d6a873c4e37fab45e70f7c8f49dbbc845f2dad14446e7d8107e38219683f07", func := "puncheon/puncheonlaw27.PullPrefix", spec := "pullPrefix", unfollowed := true, recurses := true, apart := false }
def PullPrefixSaid : Prop := pullPrefixRow.holds Tryz.pinned (OpenSpec.ofChange pullPrefixSpec)

/-- ITS FALSE NEIGHBOUR: 'it returns false'. Refute it at one input. -/
def pullPrefixWrong : ChangeSpec := { name := "pullPrefix", fn := fun _ => fun
  | [d1, d2, d3] => { results := [.lit (.bool false)], args := [d1, d2, d3] }
  | _ => none }
def PullPrefixWrongFalsely : Prop := pullPrefixRow.holds Tryz.pinned (OpenSpec.ofChange pullPrefixWrong)

/- THE SECOND FORM. 'bulk': how many values and letters a reading holds, each counted each time it is reached (what is shared counts as often as it is met; a slice's spare places count too). A statement '..UptoSaid' is the law's where the arguments, and the package variables that the reading takes, are together of bulk at most 1048576: NARROWER than '..Said'. Prove '..Said' where nothing that the law and all that it calls make is longer than what came in: it says more and counts as full. Else prove '..UptoSaid'. A law counts once. -/
mutual
def uptoBulk {H : Type} : DataW H → Nat
  | .lit (.string bytes) => bytes.length + 1
  | .lit _ => 1
  | .nil => 1
  | .ptr d => uptoBulk d + 1
  | .slice elems spare => uptoBulkAll elems + uptoBulkAll spare + 1
  | .agg parts => uptoBulkAll parts + 1
  | .iface _ d => uptoBulk d + 1
  | .map entries => uptoBulkEntries entries + 1
  | .held _ => 1
def uptoBulkAll {H : Type} : List (DataW H) → Nat
  | [] => 0
  | d :: r => uptoBulk d + uptoBulkAll r
def uptoBulkEntries {H : Type} : List (Lit × DataW H) → Nat
  | [] => 0
  | x :: r => uptoBulkEntry x + uptoBulkEntries r
def uptoBulkEntry {H : Type} : Lit × DataW H → Nat
  | (.string bytes, d) => bytes.length + uptoBulk d + 1
  | (_, d) => uptoBulk d + 1
 end
def uptoSmall : (H : Type) → List (DataW H) → Bool := fun _ ds => decide (uptoBulkAll ds ≤ 1048576)
def OpenSpec.upto (s : _root_.Go.ChangeSpec) : _root_.Go.OpenSpec := { _root_.Go.OpenSpec.ofChange s with cond := some uptoSmall }

/-- 'puncheonlaw20.Body1Decode', WHERE WHAT IT READS IS OF BULK AT MOST 1048576: true; the input reads as it did. -/
def body1DecodeUptoRow : OpenClaim := { program := "ytflfjpkmjnnodaagreat", sum := "b8d6a873c4e37fab45e70f7c8f49dbbc845f2dad14446e7d8107e38219683f07", func := "puncheon/puncheonlaw20.Body1Decode", spec := "body1Decode", unfollowed := true, recurses := true, apart := false, narrowed := true }
def Body1DecodeUptoSaid : Prop := body1DecodeUptoRow.holds Tryz.pinned (OpenSpec.upto body1DecodeSpec)

/-- 'puncheonlaw22.PickDecode', WHERE WHAT IT READS IS OF BULK AT MOST 1048576: true; the input reads as it did. -/
def pickDecodeUptoRow : OpenClaim := { program := "ytflfjpkmjnnodaagreat", sum := "b8d6a873c4e37fab45e70f7c8f49dbbc845f2dad14446e7d8107e38219683f07", func := "puncheon/puncheonlaw22.PickDecode", spec := "pickDecode", unfollowed := true, recurses := true, apart := false, narrowed := true }
def PickDecodeUptoSaid : Prop := pickDecodeUptoRow.holds Tryz.pinned (OpenSpec.upto pickDecodeSpec)

/-- 'puncheonlaw23.BlockPuts', WHERE WHAT IT READS IS OF BULK AT MOST 1048576: true; the input reads as it did. -/
def blockPutsUptoRow : OpenClaim := { program := "ytflfjpkmjnnodaagreat", sum := "b8d6a873c4e37fab45e70f7c8f49dbbc845f2dad14446e7d8107e38219683f07", func := "puncheon/puncheonlaw23.BlockPuts", spec := "blockPuts", unfollowed := true, recurses := true, apart := false, narrowed := true }
def BlockPutsUptoSaid : Prop := blockPutsUptoRow.holds Tryz.pinned (OpenSpec.upto blockPutsSpec)

/-- 'puncheonlaw23.BlockOpens', WHERE WHAT IT READS IS OF BULK AT MOST 1048576: true; the input reads as it did. -/
def blockOpensUptoRow : OpenClaim := { program := "ytflfjpkmjnnodaagreat", sum := "b8d6a873c4e37fab45e70f7c8f49dbbc845f2dad14446e7d8107e38219683f07", func := "puncheon/puncheonlaw23.BlockOpens", spec := "blockOpens", unfollowed := true, recurses := true, apart := false, narrowed := true }
def BlockOpensUptoSaid : Prop := blockOpensUptoRow.holds Tryz.pinned (OpenSpec.upto blockOpensSpec)

/-- 'puncheonlaw24.FrameEncodes', WHERE WHAT IT READS IS OF BULK AT MOST 1048576: true; the input reads as it did. -/
def frameEncodesUptoRow : OpenClaim := { program := "ytflfjpkmjnnodaagreat", sum := "b8d6a873c4e37fab45e70f7c8f49dbbc845f2dad14446e7d8107e38219683f07", func := "puncheon/puncheonlaw24.FrameEncodes", spec := "frameEncodes", unfollowed := true, recurses := true, apart := false, narrowed := true }
def FrameEncodesUptoSaid : Prop := frameEncodesUptoRow.holds Tryz.pinned (OpenSpec.upto frameEncodesSpec)

/-- 'puncheonlaw24.FrameReads', WHERE WHAT IT READS IS OF BULK AT MOST 1048576: true; the input reads as it did. -/
def frameReadsUptoRow : OpenClaim := { program := "ytflfjpkmjnnodaagreat", sum := "b8d6a873c4e37fab45e70f7c8f49dbbc845f2dad14446e7d8107e38219683f07", func := "puncheon/puncheonlaw24.FrameReads", spec := "frameReads", unfollowed := true, recurses := true, apart := false, narrowed := true }
def FrameReadsUptoSaid : Prop := frameReadsUptoRow.holds Tryz.pinned (OpenSpec.upto frameReadsSpec)

/-- 'puncheonlaw24.FrameBack', WHERE WHAT IT READS IS OF BULK AT MOST 1048576: true; the input reads as it did. -/
def frameBackUptoRow : OpenClaim := { program := "ytflfjpkmjnnodaagreat", sum := "b8d6a873c4e37fab45e70f7c8f49dbbc845f2dad14446e7d8107e38219683f07", func := "puncheon/puncheonlaw24.FrameBack", spec := "frameBack", unfollowed := true, recurses := true, apart := false, narrowed := true }
def FrameBackUptoSaid : Prop := frameBackUptoRow.holds Tryz.pinned (OpenSpec.upto frameBackSpec)

/-- 'puncheonlaw24.FrameLength', WHERE WHAT IT READS IS OF BULK AT MOST 1048576: true; the input reads as it did. -/
def frameLengthUptoRow : OpenClaim := { program := "ytflfjpkmjnnodaagreat", sum := "b8d6a873c4e37fab45e70f7c8f49dbbc845f2dad14446e7d8107e38219683f07", func := "puncheon/puncheonlaw24.FrameLength", spec := "frameLength", unfollowed := true, recurses := true, apart := false, narrowed := true }
def FrameLengthUptoSaid : Prop := frameLengthUptoRow.holds Tryz.pinned (OpenSpec.upto frameLengthSpec)

/-- 'puncheonlaw24.FrameCuts', WHERE WHAT IT READS IS OF BULK AT MOST 1048576: true; the input reads as it did. -/
def frameCutsUptoRow : OpenClaim := { program := "ytflfjpkmjnnodaagreat", sum := "b8d6a873c4e37fab45e70f7c8f49dbbc845f2dad14446e7d8107e38219683f07", func := "puncheon/puncheonlaw24.FrameCuts", spec := "frameCuts", unfollowed := true, recurses := true, apart := false, narrowed := true }
def FrameCutsUptoSaid : Prop := frameCutsUptoRow.holds Tryz.pinned (OpenSpec.upto frameCutsSpec)

/-- 'puncheonlaw24.FrameSize', WHERE WHAT IT READS IS OF BULK AT MOST 1048576: true; the input reads as it did. -/
def frameSizeUptoRow : OpenClaim := { program := "ytflfjpkmjnnodaagreat", sum := "b8d6a873c4e37fab45e70f7c8f49dbbc845f2dad14446e7d8107e38219683f07", func := "puncheon/puncheonlaw24.FrameSize", spec := "frameSize", unfollowed := true, recurses := true, apart := false, narrowed := true }
def FrameSizeUptoSaid : Prop := frameSizeUptoRow.holds Tryz.pinned (OpenSpec.upto frameSizeSpec)

/-- 'puncheonlaw24.FramePrefix', WHERE WHAT IT READS IS OF BULK AT MOST 1048576: true; the input reads as it did. -/
def framePrefixUptoRow : OpenClaim := { program := "ytflfjpkmjnnodaagreat", sum := "b8d6a873c4e37fab45e70f7c8f49dbbc845f2dad14446e7d8107e38219683f07", func := "puncheon/puncheonlaw24.FramePrefix", spec := "framePrefix", unfollowed := true, recurses := true, apart := false, narrowed := true }
def FramePrefixUptoSaid : Prop := framePrefixUptoRow.holds Tryz.pinned (OpenSpec.upto framePrefixSpec)

/-- 'puncheonlaw26.PushLong', WHERE WHAT IT READS IS OF BULK AT MOST 1048576: true; the input reads as it did. -/
def pushLongUptoRow : OpenClaim := { program := "ytflfjpkmjnnodaagreat", sum := "b8d6a873c4e37fab45e70f7c8f49dbbc845f2dad14446e7d8107e38219683f07", func := "puncheon/puncheonlaw26.PushLong", spec := "pushLong", unfollowed := true, recurses := true, apart := false, narrowed := true }
def PushLongUptoSaid : Prop := pushLongUptoRow.holds Tryz.pinned (OpenSpec.upto pushLongSpec)

/-- 'puncheonlaw27.PullTells', WHERE WHAT IT READS IS OF BULK AT MOST 1048576: true; the input reads as it did. -/
def pullTellsUptoRow : OpenClaim := { program := "ytflfjpkmjnnodaagreat", sum := "b8d6a873c4e37fab45e70f7c8f49dbbc845f2dad14446e7d8107e38219683f07", func := "puncheon/puncheonlaw27.PullTells", spec := "pullTells", unfollowed := true, recurses := true, apart := false, narrowed := true }
def PullTellsUptoSaid : Prop := pullTellsUptoRow.holds Tryz.pinned (OpenSpec.upto pullTellsSpec)

/-- 'puncheonlaw27.PullBack', WHERE WHAT IT READS IS OF BULK AT MOST 1048576: true; the input reads as it did. -/
def pullBackUptoRow : OpenClaim := { program := "ytflfjpkmjnnodaagreat", sum := "b8d6a873c4e37fab45e70f7c8f49dbbc845f2dad14446e7d8107e38219683f07", func := "puncheon/puncheonlaw27.PullBack", spec := "pullBack", unfollowed := true, recurses := true, apart := false, narrowed := true }
def PullBackUptoSaid : Prop := pullBackUptoRow.holds Tryz.pinned (OpenSpec.upto pullBackSpec)

/-- 'puncheonlaw27.PullOwn', WHERE WHAT IT READS IS OF BULK AT MOST 1048576: true; the input reads as it did. -/
def pullOwnUptoRow : OpenClaim := { program := "ytflfjpkmjnnodaagreat", sum := "b8d6a873c4e37fab45e70f7c8f49dbbc845f2dad14446e7d8107e38219683f07", func := "puncheon/puncheonlaw27.PullOwn", spec := "pullOwn", unfollowed := true, recurses := true, apart := false, narrowed := true }
def PullOwnUptoSaid : Prop := pullOwnUptoRow.holds Tryz.pinned (OpenSpec.upto pullOwnSpec)

/-- 'puncheonlaw27.PullEmpty', WHERE WHAT IT READS IS OF BULK AT MOST 1048576: true; the input reads as it did. -/
def pullEmptyUptoRow : OpenClaim := { program := "ytflfjpkmjnnodaagreat", sum := "b8d6a873c4e37fab45e70f7c8f49dbbc845f2dad14446e7d8107e38219683f07", func := "puncheon/puncheonlaw27.PullEmpty", spec := "pullEmpty", unfollowed := true, recurses := true, apart := false, narrowed := true }
def PullEmptyUptoSaid : Prop := pullEmptyUptoRow.holds Tryz.pinned (OpenSpec.upto pullEmptySpec)

/-- 'puncheonlaw27.PullPrefix', WHERE WHAT IT READS IS OF BULK AT MOST 1048576: true; the input reads as it did. -/
def pullPrefixUptoRow : OpenClaim := { program := "ytflfjpkmjnnodaagreat", sum := "b8d6a873c4e37fab45e70f7c8f49dbbc845f2dad14446e7d8107e38219683f07", func := "puncheon/puncheonlaw27.PullPrefix", spec := "pullPrefix", unfollowed := true, recurses := true, apart := false, narrowed := true }
def PullPrefixUptoSaid : Prop := pullPrefixUptoRow.holds Tryz.pinned (OpenSpec.upto pullPrefixSpec)

end Rows
end Go.Proofs.YtflfjpkmjnnodaaGreat
