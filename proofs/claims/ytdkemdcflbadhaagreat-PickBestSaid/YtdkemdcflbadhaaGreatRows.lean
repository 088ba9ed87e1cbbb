/-
  No cell of these rows narrows 'for every input' (looked for: loops, veiled, ifaces, maps, wideKeys, modest, calm, conditions, laid).
  DERIVED. THE GIVEN ROWS OF THIS SEAT. 17 by the template 'for every input the law returns true; each argument reads behind the call as it read before'; 0 by the template 'total and deterministic' (their statements: YtdkemdcflbadhaaGreatTotals.lean).
  GIVEN WITH THE SEED: the statements are not yours to turn. If you find one false, say at which input.
  Laid BY PROGRAM, IN A SANDBOX (cutbox-rows.mjs): the forced cells as the released guide's own fill.sh prints them over the translation 8095b74564b70aa1… (all of the seat's roots in one cut). By AI agents, Wed Nov 11 2026. No macro, syntax, notation, axiom, sorry.
-/
import Derived.Test.YtdkemdcflbadhaaGreatChecked
import GoSem.Claim
import GoSem.ClaimJoined
import GoSem.ClaimMapViews
import Derived.JoinedTies
import Derived.KernelRfl
namespace Go.Proofs.YtdkemdcflbadhaaGreat
/- THE CELL 'sum', in the pinned program and in every row, IS THE sha256 OF THE DUMP (.gsa) THAT YtdkemdcflbadhaaGreatProg.lean LOADS. Nothing in Lean hashes anything: it is a label: what it is worth is what the hold of that sum in a sandbox is worth. -/
noncomputable def Tryz.pinned : Pinned := { name := "ytdkemdcflbadhaagreat", sum := "8095b74564b70aa1fdf1a67503451e694aca81c59ddddf54da646e7e4d03577a", checked := Tryz.checked }
namespace Rows
def none {H : Type} : Left H := { results := [], args := [] }

/-- 'puncheonlaw20.Body1Encode': WHATEVER THE INPUT: true; the input reads as it did. -/
def body1EncodeSpec : ChangeSpec := { name := "body1Encode", fn := fun _ => fun
  | [d] => { results := [.lit (.bool true)], args := [d] }
  | _ => none }
def body1EncodeRow : OpenClaim := { program := "ytdkemdcflbadhaagreat", sum := "8095b74564b70aa1fdf1a67503451e694aca81c59ddddf54da646e7e4d03577a", func := "puncheon/puncheonlaw20.Body1Encode", spec := "body1Encode", unfollowed := true, recurses := true, apart := false }
def Body1EncodeSaid : Prop := body1EncodeRow.holds Tryz.pinned (OpenSpec.ofChange body1EncodeSpec)

/-- ITS FALSE NEIGHBOUR: 'it returns false'. Refute it at one input. -/
def body1EncodeWrong : ChangeSpec := { name := "body1Encode", fn := fun _ => fun
  | [d] => { results := [.lit (.bool false)], args := [d] }
  | _ => none }
def Body1EncodeWrongFalsely : Prop := body1EncodeRow.holds Tryz.pinned (OpenSpec.ofChange body1EncodeWrong)

/-- 'puncheonlaw20.Body1Decode': WHATEVER THE INPUT: true; the input reads as it did. -/
def body1DecodeSpec : ChangeSpec := { name := "body1Decode", fn := fun _ => fun
  | [d1, d2] => { results := [.lit (.bool true)], args := [d1, d2] }
  | _ => none }
def body1DecodeRow : OpenClaim := { program := "ytdkemdcflbadhaagreat", sum := "8095b74564b70aa1fdf1a67503451e694aca81c59ddddf54da646e7e4d03577a", func := "puncheon/puncheonlaw20.Body1Decode", spec := "body1Decode", unfollowed := true, recurses := true, apart := false }
def Body1DecodeSaid : Prop := body1DecodeRow.holds Tryz.pinned (OpenSpec.ofChange body1DecodeSpec)

/-- ITS FALSE NEIGHBOUR: 'it returns false'. Refute it at one input. -/
def body1DecodeWrong : ChangeSpec := { name := "body1Decode", fn := fun _ => fun
  | [d1, d2] => { results := [.lit (.bool false)], args := [d1, d2] }
  | _ => none }
def Body1DecodeWrongFalsely : Prop := body1DecodeRow.holds Tryz.pinned (OpenSpec.ofChange body1DecodeWrong)

/-- 'puncheonlaw20.Body1Back': WHATEVER THE INPUT: true; the input reads as it did. -/
def body1BackSpec : ChangeSpec := { name := "body1Back", fn := fun _ => fun
  | [d] => { results := [.lit (.bool true)], args := [d] }
  | _ => none }
def body1BackRow : OpenClaim := { program := "ytdkemdcflbadhaagreat", sum := "8095b74564b70aa1fdf1a67503451e694aca81c59ddddf54da646e7e4d03577a", func := "puncheon/puncheonlaw20.Body1Back", spec := "body1Back", unfollowed := true, recurses := true, apart := false }
def Body1BackSaid : Prop := body1BackRow.holds Tryz.pinned (OpenSpec.ofChange body1BackSpec)

/-- ITS FALSE NEIGHBOUR: 'it returns false'. Refute it at one input. -/
def body1BackWrong : ChangeSpec := { name := "body1Back", fn := fun _ => fun
  | [d] => { results := [.lit (.bool false)], args := [d] }
  | _ => none }
def Body1BackWrongFalsely : Prop := body1BackRow.holds Tryz.pinned (OpenSpec.ofChange body1BackWrong)

/-- 'puncheonlaw20.Body1Length': WHATEVER THE INPUT: true; the input reads as it did. -/
def body1LengthSpec : ChangeSpec := { name := "body1Length", fn := fun _ => fun
  | [d] => { results := [.lit (.bool true)], args := [d] }
  | _ => none }
def body1LengthRow : OpenClaim := { program := "ytdkemdcflbadhaagreat", sum := "8095b74564b70aa1fdf1a67503451e694aca81c59ddddf54da646e7e4d03577a", func := "puncheon/puncheonlaw20.Body1Length", spec := "body1Length", unfollowed := true, recurses := true, apart := false }
def Body1LengthSaid : Prop := body1LengthRow.holds Tryz.pinned (OpenSpec.ofChange body1LengthSpec)

/-- ITS FALSE NEIGHBOUR: 'it returns false'. Refute it at one input. -/
def body1LengthWrong : ChangeSpec := { name := "body1Length", fn := fun _ => fun
  | [d] => { results := [.lit (.bool false)], args := [d] }
  | _ => none }
def Body1LengthWrongFalsely : Prop := body1LengthRow.holds Tryz.pinned (OpenSpec.ofChange body1LengthWrong)

/-- 'puncheonlaw20.Body1Apart': WHATEVER THE INPUT: true; the input reads as it did. -/
def body1ApartSpec : ChangeSpec := { name := "body1Apart", fn := fun _ => fun
  | [d] => { results := [.lit (.bool true)], args := [d] }
  | _ => none }
def body1ApartRow : OpenClaim := { program := "ytdkemdcflbadhaagreat", sum := "8095b74564b70aa1fdf1a67503451e694aca81c59ddddf54da646e7e4d03577a", func := "puncheon/puncheonlaw20.Body1Apart", spec := "body1Apart", unfollowed := true, recurses := true, apart := false }
def Body1ApartSaid : Prop := body1ApartRow.holds Tryz.pinned (OpenSpec.ofChange body1ApartSpec)

/-- ITS FALSE NEIGHBOUR: 'it returns false'. Refute it at one input. -/
def body1ApartWrong : ChangeSpec := { name := "body1Apart", fn := fun _ => fun
  | [d] => { results := [.lit (.bool false)], args := [d] }
  | _ => none }
def Body1ApartWrongFalsely : Prop := body1ApartRow.holds Tryz.pinned (OpenSpec.ofChange body1ApartWrong)

/-- 'puncheonlaw22.PickBest': WHATEVER THE INPUT: true; the input reads as it did. -/
def pickBestSpec : ChangeSpec := { name := "pickBest", fn := fun _ => fun
  | [d1, d2] => { results := [.lit (.bool true)], args := [d1, d2] }
  | _ => none }
def pickBestRow : OpenClaim := { program := "ytdkemdcflbadhaagreat", sum := "8095b74564b70aa1fdf1a67503451e694aca81c59ddddf54da646e7e4d03577a", func := "puncheon/puncheonlaw22.PickBest", spec := "pickBest", unfollowed := true, recurses := true, apart := false }
def PickBestSaid : Prop := pickBestRow.holds Tryz.pinned (OpenSpec.ofChange pickBestSpec)

/-- ITS FALSE NEIGHBOUR: 'it returns false'. Refute it at one input. -/
def pickBestWrong : ChangeSpec := { name := "pickBest", fn := fun _ => fun
  | [d1, d2] => { results := [.lit (.bool false)], args := [d1, d2] }
  | _ => none }
def PickBestWrongFalsely : Prop := pickBestRow.holds Tryz.pinned (OpenSpec.ofChange pickBestWrong)

/-- 'puncheonlaw22.PickLeast': WHATEVER THE INPUT: true; the input reads as it did. -/
def pickLeastSpec : ChangeSpec := { name := "pickLeast", fn := fun _ => fun
  | [d1, d2] => { results := [.lit (.bool true)], args := [d1, d2] }
  | _ => none }
def pickLeastRow : OpenClaim := { program := "ytdkemdcflbadhaagreat", sum := "8095b74564b70aa1fdf1a67503451e694aca81c59ddddf54da646e7e4d03577a", func := "puncheon/puncheonlaw22.PickLeast", spec := "pickLeast", unfollowed := true, recurses := true, apart := false }
def PickLeastSaid : Prop := pickLeastRow.holds Tryz.pinned (OpenSpec.ofChange pickLeastSpec)

/-- ITS FALSE NEIGHBOUR: 'it returns false'. Refute it at one input. -/
def pickLeastWrong : ChangeSpec := { name := "pickLeast", fn := fun _ => fun
  | [d1, d2] => { results := [.lit (.bool false)], args := [d1, d2] }
  | _ => none }
def PickLeastWrongFalsely : Prop := pickLeastRow.holds Tryz.pinned (OpenSpec.ofChange pickLeastWrong)

/-- 'puncheonlaw22.PickShort': WHATEVER THE INPUT: true; the input reads as it did. -/
def pickShortSpec : ChangeSpec := { name := "pickShort", fn := fun _ => fun
  | [d] => { results := [.lit (.bool true)], args := [d] }
  | _ => none }
def pickShortRow : OpenClaim := { program := "ytdkemdcflbadhaagreat", sum := "8095b74564b70aa1fdf1a67503451e694aca81c59ddddf54da646e7e4d03577a", func := "puncheon/puncheonlaw22.PickShort", spec := "pickShort", unfollowed := true, recurses := true, apart := false }
def PickShortSaid : Prop := pickShortRow.holds Tryz.pinned (OpenSpec.ofChange pickShortSpec)

/-- ITS FALSE NEIGHBOUR: 'it returns false'. Refute it at one input. -/
def pickShortWrong : ChangeSpec := { name := "pickShort", fn := fun _ => fun
  | [d] => { results := [.lit (.bool false)], args := [d] }
  | _ => none }
def PickShortWrongFalsely : Prop := pickShortRow.holds Tryz.pinned (OpenSpec.ofChange pickShortWrong)

/-- 'puncheonlaw22.PickDecode': WHATEVER THE INPUT: true; the input reads as it did. -/
def pickDecodeSpec : ChangeSpec := { name := "pickDecode", fn := fun _ => fun
  | [d1, d2, d3, d4] => { results := [.lit (.bool true)], args := [d1, d2, d3, d4] }
  | _ => none }
def pickDecodeRow : OpenClaim := { program := "ytdkemdcflbadhaagreat", sum := "8095b74564b70aa1fdf1a67503451e694aca81c59ddddf54da646e7e4d03577a", func := "puncheon/puncheonlaw22.PickDecode", spec := "pickDecode", unfollowed := true, recurses := true, apart := false }
def PickDecodeSaid : Prop := pickDecodeRow.holds Tryz.pinned (OpenSpec.ofChange pickDecodeSpec)

/-- ITS FALSE NEIGHBOUR: 'it returns false'. Refute it at one input. -/
def pickDecodeWrong : ChangeSpec := { name := "pickDecode", fn := fun _ => fun
  | [d1, d2, d3, d4] => { results := [.lit (.bool false)], args := [d1, d2, d3, d4] }
  | _ => none }
def PickDecodeWrongFalsely : Prop := pickDecodeRow.holds Tryz.pinned (OpenSpec.ofChange pickDecodeWrong)

/-- 'puncheonlaw22.PickBack': WHATEVER THE INPUT: true; the input reads as it did. -/
def pickBackSpec : ChangeSpec := { name := "pickBack", fn := fun _ => fun
  | [d] => { results := [.lit (.bool true)], args := [d] }
  | _ => none }
def pickBackRow : OpenClaim := { program := "ytdkemdcflbadhaagreat", sum := "8095b74564b70aa1fdf1a67503451e694aca81c59ddddf54da646e7e4d03577a", func := "puncheon/puncheonlaw22.PickBack", spec := "pickBack", unfollowed := true, recurses := true, apart := false }
def PickBackSaid : Prop := pickBackRow.holds Tryz.pinned (OpenSpec.ofChange pickBackSpec)

/-- ITS FALSE NEIGHBOUR: 'it returns false'. Refute it at one input. -/
def pickBackWrong : ChangeSpec := { name := "pickBack", fn := fun _ => fun
  | [d] => { results := [.lit (.bool false)], args := [d] }
  | _ => none }
def PickBackWrongFalsely : Prop := pickBackRow.holds Tryz.pinned (OpenSpec.ofChange pickBackWrong)

/-- 'puncheonlaw22.PickKinds': WHATEVER THE INPUT: true; the input reads as it did. -/
def pickKindsSpec : ChangeSpec := { name := "pickKinds", fn := fun _ => fun
  | [d1, d2] => { results := [.lit (.bool true)], args := [d1, d2] }
  | _ => none }
def pickKindsRow : OpenClaim := { program := "ytdkemdcflbadhaagreat", sum := "8095b74564b70aa1fdf1a67503451e694aca81c59ddddf54da646e7e4d03577a", func := "puncheon/puncheonlaw22.PickKinds", spec := "pickKinds", unfollowed := true, recurses := true, apart := false }
def PickKindsSaid : Prop := pickKindsRow.holds Tryz.pinned (OpenSpec.ofChange pickKindsSpec)

/-- ITS FALSE NEIGHBOUR: 'it returns false'. Refute it at one input. -/
def pickKindsWrong : ChangeSpec := { name := "pickKinds", fn := fun _ => fun
  | [d1, d2] => { results := [.lit (.bool false)], args := [d1, d2] }
  | _ => none }
def PickKindsWrongFalsely : Prop := pickKindsRow.holds Tryz.pinned (OpenSpec.ofChange pickKindsWrong)

/-- 'puncheonlaw23.BlockPuts': WHATEVER THE INPUT: true; the input reads as it did. -/
def blockPutsSpec : ChangeSpec := { name := "blockPuts", fn := fun _ => fun
  | [d1, d2] => { results := [.lit (.bool true)], args := [d1, d2] }
  | _ => none }
def blockPutsRow : OpenClaim := { program := "ytdkemdcflbadhaagreat", sum := "8095b74564b70aa1fdf1a67503451e694aca81c59ddddf54da646e7e4d03577a", func := "puncheon/puncheonlaw23.BlockPuts", spec := "blockPuts", unfollowed := true, recurses := true, apart := false }
def BlockPutsSaid : Prop := blockPutsRow.holds Tryz.pinned (OpenSpec.ofChange blockPutsSpec)

/-- ITS FALSE NEIGHBOUR: 'it returns false'. Refute it at one input. -/
def blockPutsWrong : ChangeSpec := { name := "blockPuts", fn := fun _ => fun
  | [d1, d2] => { results := [.lit (.bool false)], args := [d1, d2] }
  | _ => none }
def BlockPutsWrongFalsely : Prop := blockPutsRow.holds Tryz.pinned (OpenSpec.ofChange blockPutsWrong)

/-- 'puncheonlaw23.BlockScans': WHATEVER THE INPUT: true; the input reads as it did. -/
def blockScansSpec : ChangeSpec := { name := "blockScans", fn := fun _ => fun
  | [d1, d2, d3, d4] => { results := [.lit (.bool true)], args := [d1, d2, d3, d4] }
  | _ => none }
def blockScansRow : OpenClaim := { program := "ytdkemdcflbadhaagreat", sum := "8095b74564b70aa1fdf1a67503451e694aca81c59ddddf54da646e7e4d03577a", func := "puncheon/puncheonlaw23.BlockScans", spec := "blockScans", unfollowed := true, recurses := true, apart := false }
def BlockScansSaid : Prop := blockScansRow.holds Tryz.pinned (OpenSpec.ofChange blockScansSpec)

/-- ITS FALSE NEIGHBOUR: 'it returns false'. Refute it at one input. -/
def blockScansWrong : ChangeSpec := { name := "blockScans", fn := fun _ => fun
  | [d1, d2, d3, d4] => { results := [.lit (.bool false)], args := [d1, d2, d3, d4] }
  | _ => none }
def BlockScansWrongFalsely : Prop := blockScansRow.holds Tryz.pinned (OpenSpec.ofChange blockScansWrong)

/-- 'puncheonlaw23.BlockOpens': WHATEVER THE INPUT: true; the input reads as it did. -/
def blockOpensSpec : ChangeSpec := { name := "blockOpens", fn := fun _ => fun
  | [d1, d2, d3, d4] => { results := [.lit (.bool true)], args := [d1, d2, d3, d4] }
  | _ => none }
def blockOpensRow : OpenClaim := { program := "ytdkemdcflbadhaagreat", sum := "8095b74564b70aa1fdf1a67503451e694aca81c59ddddf54da646e7e4d03577a", func := "puncheon/puncheonlaw23.BlockOpens", spec := "blockOpens", unfollowed := true, recurses := true, apart := false }
def BlockOpensSaid : Prop := blockOpensRow.holds Tryz.pinned (OpenSpec.ofChange blockOpensSpec)

/-- ITS FALSE NEIGHBOUR: 'it returns false'. Refute it at one input. -/
def blockOpensWrong : ChangeSpec := { name := "blockOpens", fn := fun _ => fun
  | [d1, d2, d3, d4] => { results := [.lit (.bool false)], args := [d1, d2, d3, d4] }
  | _ => none }
def BlockOpensWrongFalsely : Prop := blockOpensRow.holds Tryz.pinned (OpenSpec.ofChange blockOpensWrong)

/-- 'puncheonlaw23.BlockBack': WHATEVER THE INPUT: true; the input reads as it did. -/
def blockBackSpec : ChangeSpec := { name := "blockBack", fn := fun _ => fun
  | [d1, d2, d3] => { results := [.lit (.bool true)], args := [d1, d2, d3] }
  | _ => none }
def blockBackRow : OpenClaim := { program := "ytdkemdcflbadhaagreat", sum := "8095b74564b70aa1fdf1a67503451e694aca81c59ddddf54da646e7e4d03577a", func := "puncheon/puncheonlaw23.BlockBack", spec := "blockBack", unfollowed := true, recurses := true, apart := false }
def BlockBackSaid : Prop := blockBackRow.holds Tryz.pinned (OpenSpec.ofChange blockBackSpec)

/-- ITS FALSE NEIGHBOUR: 'it returns false'. Refute it at one input. -/
def blockBackWrong : ChangeSpec := { name := "blockBack", fn := fun _ => fun
  | [d1, d2, d3] => { results := [.lit (.bool false)], args := [d1, d2, d3] }
  | _ => none }
def BlockBackWrongFalsely : Prop := blockBackRow.holds Tryz.pinned (OpenSpec.ofChange blockBackWrong)

/-- 'puncheonlaw23.BlockCuts': WHATEVER THE INPUT: true; the input reads as it did. -/
def blockCutsSpec : ChangeSpec := { name := "blockCuts", fn := fun _ => fun
  | [d1, d2] => { results := [.lit (.bool true)], args := [d1, d2] }
  | _ => none }
def blockCutsRow : OpenClaim := { program := "ytdkemdcflbadhaagreat", sum := "8095b74564b70aa1fdf1a67503451e694aca81c59ddddf54da646e7e4d03577a", func := "puncheon/puncheonlaw23.BlockCuts", spec := "blockCuts", unfollowed := true, recurses := true, apart := false }
def BlockCutsSaid : Prop := blockCutsRow.holds Tryz.pinned (OpenSpec.ofChange blockCutsSpec)

/-- ITS FALSE NEIGHBOUR: 'it returns false'. Refute it at one input. -/
def blockCutsWrong : ChangeSpec := { name := "blockCuts", fn := fun _ => fun
  | [d1, d2] => { results := [.lit (.bool false)], args := [d1, d2] }
  | _ => none }
def BlockCutsWrongFalsely : Prop := blockCutsRow.holds Tryz.pinned (OpenSpec.ofChange blockCutsWrong)

/-- 'puncheonlaw23.BlockTurned': WHATEVER THE INPUT: true; the input reads as it did. -/
def blockTurnedSpec : ChangeSpec := { name := "blockTurned", fn := fun _ => fun
  | [d1, d2, d3] => { results := [.lit (.bool true)], args := [d1, d2, d3] }
  | _ => none }
def blockTurnedRow : OpenClaim := { program := "ytdkemdcflbadhaagreat", sum := "8095b74564b70aa1fdf1a67503451e694aca81c59ddddf54da646e7e4d03577a", func := "puncheon/puncheonlaw23.BlockTurned", spec := "blockTurned", unfollowed := true, recurses := true, apart := false }
def BlockTurnedSaid : Prop := blockTurnedRow.holds Tryz.pinned (OpenSpec.ofChange blockTurnedSpec)

/-- ITS FALSE NEIGHBOUR: 'it returns false'. Refute it at one input. -/
def blockTurnedWrong : ChangeSpec := { name := "blockTurned", fn := fun _ => fun
  | [d1, d2, d3] => { results := [.lit (.bool false)], args := [d1, d2, d3] }
  | _ => none }
def BlockTurnedWrongFalsely : Prop := blockTurnedRow.holds Tryz.pinned (OpenSpec.ofChange blockTurnedWrong)

/- THE SECOND FORM. 'bulk': how many values and letters a reading holds, each counted each time it is reached (what is shared counts as often as it is met; a slice's spare places count too). A statement '..UptoSaid' is the law's where the arguments, and the package variables that the reading takes, are together of bulk at most 1048576: NARROWER than '..Said'. Prove '..Said' where nothing that the law and all that it calls make is longer than what came in: it says more and counts as full. Else prove '..UptoSaid'. A law counts once. -/
mutual
def uptoBulk {H : Type} : DataW H → Nat
  | .lit (.string bytes) => bytes.length + 1
  | .lit _ => 1
  | .nil => 1
  | .ptr d => uptoBulk d + 1
  | .slice elems spare => uptoBulkAll elems + uptoBulkAll spare + 1
  | .agg parts => uptoBulkAll parts + 1
  | .iface _ d => uptoBulk d + 1
  | .map entries => uptoBulkEntries entries + 1
  | .held _ => 1
def uptoBulkAll {H : Type} : List (DataW H) → Nat
  | [] => 0
  | d :: r => uptoBulk d + uptoBulkAll r
def uptoBulkEntries {H : Type} : List (Lit × DataW H) → Nat
  | [] => 0
  | x :: r => uptoBulkEntry x + uptoBulkEntries r
def uptoBulkEntry {H : Type} : Lit × DataW H → Nat
  | (.string bytes, d) => bytes.length + uptoBulk d + 1
  | (_, d) => uptoBulk d + 1
 end
def uptoSmall : (H : Type) → List (DataW H) → Bool := fun _ ds => decide (uptoBulkAll ds ≤ 1048576)
def OpenSpec.upto (s : _root_.Go.ChangeSpec) : _root_.Go.OpenSpec := { _root_.Go.OpenSpec.ofChange s with cond := some uptoSmall }

/-- 'puncheonlaw20.Body1Encode', WHERE WHAT IT READS IS OF BULK AT MOST 1048576: true; the input reads as it did. -/
def body1EncodeUptoRow : OpenClaim := { program := "ytdkemdcflbadhaagreat", sum := "8095b74564b70aa1fdf1a67503451e694aca81c59ddddf54da646e7e4d03577a", func := "puncheon/puncheonlaw20.Body1Encode", spec := "body1Encode", unfollowed := true, recurses := true, apart := false, narrowed := true }
def Body1EncodeUptoSaid : Prop := body1EncodeUptoRow.holds Tryz.pinned (OpenSpec.upto body1EncodeSpec)

/-- 'puncheonlaw20.Body1Decode', WHERE WHAT IT READS IS OF BULK AT MOST 1048576: true; the input reads as it did. -/
def body1DecodeUptoRow : OpenClaim := { program := "ytdkemdcflbadhaagreat", sum := "8095b74564b70aa1fdf1a67503451e694aca81c59ddddf54da646e7e4d03577a", func := "puncheon/puncheonlaw20.Body1Decode", spec := "body1Decode", unfollowed := true, recurses := true, apart := false, narrowed := true }
def Body1DecodeUptoSaid : Prop := body1DecodeUptoRow.holds Tryz.pinned (OpenSpec.upto body1DecodeSpec)

/-- 'puncheonlaw20.Body1Back', WHERE WHAT IT READS IS OF BULK AT MOST 1048576: true; the input reads as it did. -/
def body1BackUptoRow : OpenClaim := { program := "ytdkemdcflbadhaagreat", sum := "8095b74564b70aa1fdf1a67503451e694aca81c59ddddf54da646e7e4d03577a", func := "puncheon/puncheonlaw20.Body1Back", spec := "body1Back", unfollowed := true, recurses := true, apart := false, narrowed := true }
def Body1BackUptoSaid : Prop := body1BackUptoRow.holds Tryz.pinned (OpenSpec.upto body1BackSpec)

/-- 'puncheonlaw20.Body1Length', WHERE WHAT IT READS IS OF BULK AT MOST 1048576: true; the input reads as it did. -/
def body1LengthUptoRow : OpenClaim := { program := "ytdkemdcflbadhaagreat", sum := "8095b74564b70aa1fdf1a67503451e694aca81c59ddddf54da646e7e4d03577a", func := "puncheon/puncheonlaw20.Body1Length", spec := "body1Length", unfollowed := true, recurses := true, apart := false, narrowed := true }
def Body1LengthUptoSaid : Prop := body1LengthUptoRow.holds Tryz.pinned (OpenSpec.upto body1LengthSpec)

/-- 'puncheonlaw20.Body1Apart', WHERE WHAT IT READS IS OF BULK AT MOST 1048576: true; the input reads as it did. -/
def body1ApartUptoRow : OpenClaim := { program := "ytdkemdcflbadhaagreat", sum := "8095b74564b70aa1fdf1a67503451e694aca81c59ddddf54da646e7e4d03577a", func := "puncheon/puncheonlaw20.Body1Apart", spec := "body1Apart", unfollowed := true, recurses := true, apart := false, narrowed := true }
def Body1ApartUptoSaid : Prop := body1ApartUptoRow.holds Tryz.pinned (OpenSpec.upto body1ApartSpec)

/-- 'puncheonlaw22.PickBest', WHERE WHAT IT READS IS OF BULK AT MOST 1048576: true; the input reads as it did. -/
def pickBestUptoRow : OpenClaim := { program := "ytdkemdcflbadhaagreat", sum := "8095b74564b70aa1fdf1a67503451e694aca81c59ddddf54da646e7e4d03577a", func := "puncheon/puncheonlaw22.PickBest", spec := "pickBest", unfollowed := true, recurses := true, apart := false, narrowed := true }
def PickBestUptoSaid : Prop := pickBestUptoRow.holds Tryz.pinned (OpenSpec.upto pickBestSpec)

/-- 'puncheonlaw22.PickLeast', WHERE WHAT IT READS IS OF BULK AT MOST 1048576: true; the input reads as it did. -/
def pickLeastUptoRow : OpenClaim := { program := "ytdkemdcflbadhaagreat", sum := "8095b74564b70aa1fdf1a67503451e694aca81c59ddddf54da646e7e4d03577a", func := "puncheon/puncheonlaw22.PickLeast", spec := "pickLeast", unfollowed := true, recurses := true, apart := false, narrowed := true }
def PickLeastUptoSaid : Prop := pickLeastUptoRow.holds Tryz.pinned (OpenSpec.upto pickLeastSpec)

/-- 'puncheonlaw22.PickShort', WHERE WHAT IT READS IS OF BULK AT MOST 1048576: true; the input reads as it did. -/
def pickShortUptoRow : OpenClaim := { program := "ytdkemdcflbadhaagreat", sum := "8095b74564b70aa1fdf1a67503451e694aca81c59ddddf54da646e7e4d03577a", func := "puncheon/puncheonlaw22.PickShort", spec := "pickShort", unfollowed := true, recurses := true, apart := false, narrowed := true }
def PickShortUptoSaid : Prop := pickShortUptoRow.holds Tryz.pinned (OpenSpec.upto pickShortSpec)

/-- 'puncheonlaw22.PickDecode', WHERE WHAT IT READS IS OF BULK AT MOST 1048576: true; the input reads as it did. -/
def pickDecodeUptoRow : OpenClaim := { program := "ytdkemdcflbadhaagreat", sum := "8095b74564b70aa1fdf1a67503451e694aca81c59ddddf54da646e7e4d03577a", func := "puncheon/puncheonlaw22.PickDecode", spec := "pickDecode", unfollowed := true, recurses := true, apart := false, narrowed := true }
def PickDecodeUptoSaid : Prop := pickDecodeUptoRow.holds Tryz.pinned (OpenSpec.upto pickDecodeSpec)

/-- 'puncheonlaw22.PickBack', WHERE WHAT IT READS IS OF BULK AT MOST 1048576: true; the input reads as it did. -/
def pickBackUptoRow : OpenClaim := { program := "ytdkemdcflbadhaagreat", sum := "8095b74564b70aa1fdf1a67503451e694aca81c59ddddf54da646e7e4d03577a", func := "puncheon/puncheonlaw22.PickBack", spec := "pickBack", unfollowed := true, recurses := true, apart := false, narrowed := true }
def PickBackUptoSaid : Prop := pickBackUptoRow.holds Tryz.pinned (OpenSpec.upto pickBackSpec)

/-- 'puncheonlaw22.PickKinds', WHERE WHAT IT READS IS OF BULK AT MOST 1048576: true; the input reads as it did. -/
def pickKindsUptoRow : OpenClaim := { program := "ytdkemdcflbadhaagreat", sum := "8095b74564b70aa1fdf1a67503451e694aca81c59ddddf54da646e7e4d03577a", func := "puncheon/puncheonlaw22.PickKinds", spec := "pickKinds", unfollowed := true, recurses := true, apart := false, narrowed := true }
def PickKindsUptoSaid : Prop := pickKindsUptoRow.holds Tryz.pinned (OpenSpec.upto pickKindsSpec)

/-- 'puncheonlaw23.BlockPuts', WHERE WHAT IT READS IS OF BULK AT MOST 1048576: true; the input reads as it did. -/
def blockPutsUptoRow : OpenClaim := { program := "ytdkemdcflbadhaagreat", sum := "8095b74564b70aa1fdf1a67503451e694aca81c59ddddf54da646e7e4d03577a", func := "puncheon/puncheonlaw23.BlockPuts", spec := "blockPuts", unfollowed := true, recurses := true, apart := false, narrowed := true }
def BlockPutsUptoSaid : Prop := blockPutsUptoRow.holds Tryz.pinned (OpenSpec.upto blockPutsSpec)

/-- 'puncheonlaw23.BlockScans', WHERE WHAT IT READS IS OF BULK AT MOST 1048576: true; the input reads as it did. -/
def blockScansUptoRow : OpenClaim := { program := "ytdkemdcflbadhaagreat", sum := "8095b74564b70aa1fdf1a67503451e694aca81c59ddddf54da646e7e4d03577a", func := "puncheon/puncheonlaw23.BlockScans", spec := "blockScans", unfollowed := true, recurses := true, apart := false, narrowed := true }
def BlockScansUptoSaid : Prop := blockScansUptoRow.holds Tryz.pinned (OpenSpec.upto blockScansSpec)

/-- 'puncheonlaw23.BlockOpens', WHERE WHAT IT READS IS OF BULK AT MOST 1048576: true; the input reads as it did. -/
def blockOpensUptoRow : OpenClaim := { program := "ytdkemdcflbadhaagreat", sum := "8095b74564b70aa1fdf1a67503451e694aca81c59ddddf54da646e7e4d03577a", func := "puncheon/puncheonlaw23.BlockOpens", spec := "blockOpens", unfollowed := true, recurses := true, apart := false, narrowed := true }
def BlockOpensUptoSaid : Prop := blockOpensUptoRow.holds Tryz.pinned (OpenSpec.upto blockOpensSpec)

/-- 'puncheonlaw23.BlockBack', WHERE WHAT IT READS IS OF BULK AT MOST 1048576: true; the input reads as it did. -/
def blockBackUptoRow : OpenClaim := { program := "ytdkemdcflbadhaagreat", sum := "8095b74564b70aa1fdf1a67503451e694aca81c59ddddf54da646e7e4d03577a", func := "puncheon/puncheonlaw23.BlockBack", spec := "blockBack", unfollowed := true, recurses := true, apart := false, narrowed := true }
def BlockBackUptoSaid : Prop := blockBackUptoRow.holds Tryz.pinned (OpenSpec.upto blockBackSpec)

/-- 'puncheonlaw23.BlockCuts', WHERE WHAT IT READS IS OF BULK AT MOST 1048576: true; the input reads as it did. -/
def blockCutsUptoRow : OpenClaim := { program := "ytdkemdcflbadhaagreat", sum := "8095b74564b70aa1fdf1a67503451e694aca81c59ddddf54da646e7e4d03577a", func := "puncheon/puncheonlaw23.BlockCuts", spec := "blockCuts", unfollowed := true, recurses := true, apart := false, narrowed := true }
def BlockCutsUptoSaid : Prop := blockCutsUptoRow.holds Tryz.pinned (OpenSpec.upto blockCutsSpec)

/-- 'puncheonlaw23.BlockTurned', WHERE WHAT IT READS IS OF BULK AT MOST 1048576: true; the input reads as it did. -/
def blockTurnedUptoRow : OpenClaim := { program := "ytdkemdcflbadhaagreat", sum := "8095b74564b70aa1fdf1a67503451e694aca81c59ddddf54da646e7e4d03577a", func := "puncheon/puncheonlaw23.BlockTurned", spec := "blockTurned", unfollowed := true, recurses := true, apart := false, narrowed := true }
def BlockTurnedUptoSaid : Prop := blockTurnedUptoRow.holds Tryz.pinned (OpenSpec.upto blockTurnedSpec)

end Rows
end Go.Proofs.YtdkemdcflbadhaaGreat
