/-
  No cell of these rows narrows 'for every input' (looked for: loops, veiled, ifaces, maps, wideKeys, modest, calm, conditions, laid).
  DERIVED. THE GIVEN ROWS OF THIS SEAT. 6 by the template 'for every input the law returns true; each argument reads behind the call as it read before'; 0 by the template 'total and deterministic' (their statements: YtgjghcpaokfniaaGreatTotals.lean).
  GIVEN WITH THE SEED: the statements are not yours to turn. If you find one false, say at which input.
  Laid BY PROGRAM, IN A SANDBOX (cutbox-rows.mjs): the forced cells as the released guide's own fill.sh prints them over the translation e4e066ab21123b98… (all of the seat's roots in one cut). By AI agents, Wed Nov 11 2026. No macro, syntax, notation, axiom, sorry.
-/
import Derived.Test.YtgjghcpaokfniaaGreatChecked
import GoSem.Claim
import GoSem.ClaimJoined
import GoSem.ClaimMapViews
import Derived.JoinedTies
import Derived.KernelRfl
namespace Go.Proofs.YtgjghcpaokfniaaGreat
/- THE CELL 'sum', in the pinned program and in every row, IS THE sha256 OF THE DUMP (.gsa) THAT YtgjghcpaokfniaaGreatProg.lean LOADS. Nothing in Lean hashes anything: it is a label: what it is worth is what the hold of that sum in a sandbox is worth. -/
noncomputable def Tryz.pinned : Pinned := { name := "ytgjghcpaokfniaagreat", sum := "e4e066ab21123b9853cc667c82e7de3b0531c2a0e756895a2f8d24725a81f1c9", checked := Tryz.checked }
namespace Rows
def none {H : Type} : Left H := { results := [], args := [] }

/-- 'puncheonlaw18.Body0Encode': WHATEVER THE INPUT: true; the input reads as it did. -/
def body0EncodeSpec : ChangeSpec := { name := "body0Encode", fn := fun _ => fun
  | [d] => { results := [.lit (.bool true)], args := [d] }
  | _ => none }
def body0EncodeRow : OpenClaim := { program := "ytgjghcpaokfniaagreat", sum := "e4e066ab21123b9853cc667c82e7de3b0531c2a0e756895a2f8d24725a81f1c9", func := "puncheon/puncheonlaw18.Body0Encode", spec := "body0Encode", unfollowed := true, recurses := true, apart := false }
def Body0EncodeSaid : Prop := body0EncodeRow.holds Tryz.pinned (OpenSpec.ofChange body0EncodeSpec)

/-- ITS FALSE NEIGHBOUR: 'it returns false'. Refute it at one input. -/
def body0EncodeWrong : ChangeSpec := { name := "body0Encode", fn := fun _ => fun
  | [d] => { results := [.lit (.bool false)], args := [d] }
  | _ => none }
def Body0EncodeWrongFalsely : Prop := body0EncodeRow.holds Tryz.pinned (OpenSpec.ofChange body0EncodeWrong)

/-- 'puncheonlaw18.Body0Decode': WHATEVER THE INPUT: true; the input reads as it did. -/
def body0DecodeSpec : ChangeSpec := { name := "body0Decode", fn := fun _ => fun
  | [d1, d2] => { results := [.lit (.bool true)], args := [d1, d2] }
  | _ => none }
def body0DecodeRow : OpenClaim := { program := "ytgjghcpaokfniaagreat", sum := "e4e066ab21123b9853cc667c82e7de3b0531c2a0e756895a2f8d24725a81f1c9", func := "puncheon/puncheonlaw18.Body0Decode", spec := "body0Decode", unfollowed := true, recurses := true, apart := false }
def Body0DecodeSaid : Prop := body0DecodeRow.holds Tryz.pinned (OpenSpec.ofChange body0DecodeSpec)

/-- ITS FALSE NEIGHBOUR: 'it returns false'. Refute it at one input. -/
def body0DecodeWrong : ChangeSpec := { name := "body0Decode", fn := fun _ => fun
  | [d1, d2] => { results := [.lit (.bool false)], args := [d1, d2] }
  | _ => none }
def Body0DecodeWrongFalsely : Prop := body0DecodeRow.holds Tryz.pinned (OpenSpec.ofChange body0DecodeWrong)

/-- 'puncheonlaw18.Body0Back': WHATEVER THE INPUT: true; the input reads as it did. -/
def body0BackSpec : ChangeSpec := { name := "body0Back", fn := fun _ => fun
  | [d] => { results := [.lit (.bool true)], args := [d] }
  | _ => none }
def body0BackRow : OpenClaim := { program := "ytgjghcpaokfniaagreat", sum := "e4e066ab21123b9853cc667c82e7de3b0531c2a0e756895a2f8d24725a81f1c9", func := "puncheon/puncheonlaw18.Body0Back", spec := "body0Back", unfollowed := true, recurses := true, apart := false }
def Body0BackSaid : Prop := body0BackRow.holds Tryz.pinned (OpenSpec.ofChange body0BackSpec)

/-- ITS FALSE NEIGHBOUR: 'it returns false'. Refute it at one input. -/
def body0BackWrong : ChangeSpec := { name := "body0Back", fn := fun _ => fun
  | [d] => { results := [.lit (.bool false)], args := [d] }
  | _ => none }
def Body0BackWrongFalsely : Prop := body0BackRow.holds Tryz.pinned (OpenSpec.ofChange body0BackWrong)

/-- 'puncheonlaw18.Body0Turned': WHATEVER THE INPUT: true; the input reads as it did. -/
def body0TurnedSpec : ChangeSpec := { name := "body0Turned", fn := fun _ => fun
  | [d1, d2] => { results := [.lit (.bool true)], args := [d1, d2] }
  | _ => none }
def body0TurnedRow : OpenClaim := { program := "ytgjghcpaokfniaagreat", sum := "e4e066ab21123b9853cc667c82e7de3b0531c2a0e756895a2f8d24725a81f1c9", func := "puncheon/puncheonlaw18.Body0Turned", spec := "body0Turned", unfollowed := true, recurses := true, apart := false }
def Body0TurnedSaid : Prop := body0TurnedRow.holds Tryz.pinned (OpenSpec.ofChange body0TurnedSpec)

/-- ITS FALSE NEIGHBOUR: 'it returns false'. Refute it at one input. -/
def body0TurnedWrong : ChangeSpec := { name := "body0Turned", fn := fun _ => fun
  | [d1, d2] => { results := [.lit (.bool false)], args := [d1, d2] }
  | _ => none }
def Body0TurnedWrongFalsely : Prop := body0TurnedRow.holds Tryz.pinned (OpenSpec.ofChange body0TurnedWrong)

/-- 'puncheonlaw18.Body0Cuts': WHATEVER THE INPUT: true; the input reads as it did. -/
def body0CutsSpec : ChangeSpec := { name := "body0Cuts", fn := fun _ => fun
  | [d1, d2] => { results := [.lit (.bool true)], args := [d1, d2] }
  | _ => none }
def body0CutsRow : OpenClaim := { program := "ytgjghcpaokfniaagreat", sum := "e4e066ab21123b9853cc667c82e7de3b0531c2a0e756895a2f8d24725a81f1c9", func := "puncheon/puncheonlaw18.Body0Cuts", spec := "body0Cuts", unfollowed := true, recurses := true, apart := false }
def Body0CutsSaid : Prop := body0CutsRow.holds Tryz.pinned (OpenSpec.ofChange body0CutsSpec)

/-- ITS FALSE NEIGHBOUR: 'it returns false'. Refute it at one input. -/
def body0CutsWrong : ChangeSpec := { name := "body0Cuts", fn := fun _ => fun
  | [d1, d2] => { results := [.lit (.bool false)], args := [d1, d2] }
  | _ => none }
def Body0CutsWrongFalsely : Prop := body0CutsRow.holds Tryz.pinned (OpenSpec.ofChange body0CutsWrong)

/-- 'puncheonlaw18.Body0Length': WHATEVER THE INPUT: true; the input reads as it did. -/
def body0LengthSpec : ChangeSpec := { name := "body0Length", fn := fun _ => fun
  | [d] => { results := [.lit (.bool true)], args := [d] }
  | _ => none }
def body0LengthRow : OpenClaim := { program := "ytgjghcpaokfniaagreat", sum := "e4e066ab21123b9853cc667c82e7de3b0531c2a0e756895a2f8d24725a81f1c9", func := "puncheon/puncheonlaw18.Body0Length", spec := "body0Length", unfollowed := true, recurses := true, apart := false }
def Body0LengthSaid : Prop := body0LengthRow.holds Tryz.pinned (OpenSpec.ofChange body0LengthSpec)

/-- ITS FALSE NEIGHBOUR: 'it returns false'. Refute it at one input. -/
def body0LengthWrong : ChangeSpec := { name := "body0Length", fn := fun _ => fun
  | [d] => { results := [.lit (.bool false)], args := [d] }
  | _ => none }
def Body0LengthWrongFalsely : Prop := body0LengthRow.holds Tryz.pinned (OpenSpec.ofChange body0LengthWrong)

/- THE SECOND FORM. 'bulk': how many values and letters a reading holds, each counted each time it is reached (what is shared counts as often as it is met; a slice's spare places count too). A statement '..UptoSaid' is the law's where the arguments, and the package variables that the reading takes, are together of bulk at most 1048576: NARROWER than '..Said'. Prove '..Said' where nothing that the law and all that it calls make is longer than what came in: it says more and counts as full. Else prove '..UptoSaid'. A law counts once. -/
mutual
def uptoBulk {H : Type} : DataW H → Nat
  | .lit (.string bytes) => bytes.length + 1
  | .lit _ => 1
  | .nil => 1
  | .ptr d => uptoBulk d + 1
  | .slice elems spare => uptoBulkAll elems + uptoBulkAll spare + 1
  | .agg parts => uptoBulkAll parts + 1
  | .iface _ d => uptoBulk d + 1
  | .map entries => uptoBulkEntries entries + 1
  | .held _ => 1
def uptoBulkAll {H : Type} : List (DataW H) → Nat
  | [] => 0
  | d :: r => uptoBulk d + uptoBulkAll r
def uptoBulkEntries {H : Type} : List (Lit × DataW H) → Nat
  | [] => 0
  | x :: r => uptoBulkEntry x + uptoBulkEntries r
def uptoBulkEntry {H : Type} : Lit × DataW H → Nat
  | (.string bytes, d) => bytes.length + uptoBulk d + 1
  | (_, d) => uptoBulk d + 1
 end
def uptoSmall : (H : Type) → List (DataW H) → Bool := fun _ ds => decide (uptoBulkAll ds ≤ 1048576)
def OpenSpec.upto (s : _root_.Go.ChangeSpec) : _root_.Go.OpenSpec := { _root_.Go.OpenSpec.ofChange s with cond := some uptoSmall }

/-- 'puncheonlaw18.Body0Encode', WHERE WHAT IT READS IS OF BULK AT MOST 1048576: true; the input reads as it did. -/
def body0EncodeUptoRow : OpenClaim := { program := "ytgjghcpaokfniaagreat", sum := "e4e066ab21123b9853cc667c82e7de3b0531c2a0e756895a2f8d24725a81f1c9", func := "puncheon/puncheonlaw18.Body0Encode", spec := "body0Encode", unfollowed := true, recurses := true, apart := false, narrowed := true }
def Body0EncodeUptoSaid : Prop := body0EncodeUptoRow.holds Tryz.pinned (OpenSpec.upto body0EncodeSpec)

/-- 'puncheonlaw18.Body0Decode', WHERE WHAT IT READS IS OF BULK AT MOST 1048576: true; the input reads as it did. -/
def body0DecodeUptoRow : OpenClaim := { program := "ytgjghcpaokfniaagreat", sum := "e4e066ab21123b9853cc667c82e7de3b0531c2a0e756895a2f8d24725a81f1c9", func := "puncheon/puncheonlaw18.Body0Decode", spec := "body0Decode", unfollowed := true, recurses := true, apart := false, narrowed := true }
def Body0DecodeUptoSaid : Prop := body0DecodeUptoRow.holds Tryz.pinned (OpenSpec.upto body0DecodeSpec)

/-- 'puncheonlaw18.Body0Back', WHERE WHAT IT READS IS OF BULK AT MOST 1048576: true; the input reads as it did. -/
def body0BackUptoRow : OpenClaim := { program := "ytgjghcpaokfniaagreat", sum := "e4e066ab21123b9853cc667c82e7de3b0531c2a0e756895a2f8d24725a81f1c9", func := "puncheon/puncheonlaw18.Body0Back", spec := "body0Back", unfollowed := true, recurses := true, apart := false, narrowed := true }
def Body0BackUptoSaid : Prop := body0BackUptoRow.holds Tryz.pinned (OpenSpec.upto body0BackSpec)

/-- 'puncheonlaw18.Body0Turned', WHERE WHAT IT READS IS OF BULK AT MOST 1048576: true; the input reads as it did. -/
def body0TurnedUptoRow : OpenClaim := { program := "ytgjghcpaokfniaagreat", sum := "e4e066ab21123b9853cc667c82e7de3b0531c2a0e756895a2f8d24725a81f1c9", func := "puncheon/puncheonlaw18.Body0Turned", spec := "body0Turned", unfollowed := true, recurses := true, apart := false, narrowed := true }
def Body0TurnedUptoSaid : Prop := body0TurnedUptoRow.holds Tryz.pinned (OpenSpec.upto body0TurnedSpec)

/-- 'puncheonlaw18.Body0Cuts', WHERE WHAT IT READS IS OF BULK AT MOST 1048576: true; the input reads as it did. -/
def body0CutsUptoRow : OpenClaim := { program := "ytgjghcpaokfniaagreat", sum := "e4e066ab21123b9853cc667c82e7de3b0531c2a0e756895a2f8d24725a81f1c9", func := "puncheon/puncheonlaw18.Body0Cuts", spec := "body0Cuts", unfollowed := true, recurses := true, apart := false, narrowed := true }
def Body0CutsUptoSaid : Prop := body0CutsUptoRow.holds Tryz.pinned (OpenSpec.upto body0CutsSpec)

/-- 'puncheonlaw18.Body0Length', WHERE WHAT IT READS IS OF BULK AT MOST 1048576: true; the input reads as it did. -/
def body0LengthUptoRow : OpenClaim := { program := "ytgjghcpaokfniaagreat", sum := "e4e066ab21123b9853cc667c82e7de3b0531c2a0e756895a2f8d24725a81f1c9", func := "puncheon/puncheonlaw18.Body0Length", spec := "body0Length", unfollowed := true, recurses := true, apart := false, narrowed := true }
def Body0LengthUptoSaid : Prop := body0LengthUptoRow.holds Tryz.pinned (OpenSpec.upto body0LengthSpec)

end Rows
end Go.Proofs.YtgjghcpaokfniaaGreat
