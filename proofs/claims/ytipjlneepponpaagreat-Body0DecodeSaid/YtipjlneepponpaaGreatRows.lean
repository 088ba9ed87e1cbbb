/-
  No cell of these rows narrows 'for every input' (looked for: loops, veiled, ifaces, maps, wideKeys, modest, calm, conditions, laid).
  DERIVED. THE GIVEN ROWS OF THIS SEAT. 4 by the template 'for every input the law returns true; each argument reads behind the call as it read before'; 0 by the template 'total and deterministic' (their statements: YtipjlneepponpaaGreatTotals.lean).
  GIVEN WITH THE SEED: the statements are not yours to turn. If you find one false, say at which input.
  Laid BY PROGRAM, IN A SANDBOX (cutbox-rows.mjs): the forced cells as the released guide's own fill.sh prints them over the translation bfa43d3c16174409… (all of the seat's roots in one cut). By AI agents, Wed Nov 11 2026. No macro, syntax, notation, axiom, sorry.
-/
import Derived.Test.YtipjlneepponpaaGreatChecked
import GoSem.Claim
import GoSem.ClaimJoined
import GoSem.ClaimMapViews
import Derived.JoinedTies
import Derived.KernelRfl
namespace Go.Proofs.YtipjlneepponpaaGreat
/- THE CELL 'sum', in the pinned program and in every row, IS THE sha256 OF THE DUMP (.gsa) THAT YtipjlneepponpaaGreatProg.lean LOADS. Nothing in Lean hashes anything: it is a label: what it is worth is what the hold of that sum in a sandbox is worth. -/
noncomputable def Tryz.pinned : Pinned := { name := "ytipjlneepponpaagreat", sum := "bfa43d3c1617440954960104e7fe7fb0b286ac15e38ccfacd79bc6bc470206a6", checked := Tryz.checked }
namespace Rows
def none {H : Type} : Left H := { results := [], args := [] }

/-- 'puncheonlaw18.Body0Encode': WHATEVER THE INPUT: true; the input reads as it did. -/
def body0EncodeSpec : ChangeSpec := { name := "body0Encode", fn := fun _ => fun
  | [d] => { results := [.lit (.bool true)], args := [d] }
  | _ => none }
def body0EncodeRow : OpenClaim := { program := "ytipjlneepponpaagreat", sum := "bfa43d3c1617440954960104e7fe7fb0b286ac15e38ccfacd79bc6bc470206a6", func := "puncheon/puncheonlaw18.Body0Encode", spec := "body0Encode", unfollowed := true, recurses := true, apart := false }
def Body0EncodeSaid : Prop := body0EncodeRow.holds Tryz.pinned (OpenSpec.ofChange body0EncodeSpec)

/-- ITS FALSE NEIGHBOUR: 'it returns false'. Refute it at one input. -/
def body0EncodeWrong : ChangeSpec := { name := "body0Encode", fn := fun _ => fun
  | [d] => { results := [.lit (.bool false)], args := [d] }
  | _ => none }
def Body0EncodeWrongFalsely : Prop := body0EncodeRow.holds Tryz.pinned (OpenSpec.ofChange body0EncodeWrong)

/-- 'puncheonlaw18.Body0Decode': WHATEVER THE INPUT: true; the input reads as it did. -/
def body0DecodeSpec : ChangeSpec := { name := "body0Decode", fn := fun _ => fun
  | [d1, d2] => { results := [.lit (.bool true)], args := [d1, d2] }
  | _ => none }
def body0DecodeRow : OpenClaim := { program := "ytipjlneepponpaagreat", sum := "bfa43d3c1617440954960104e7fe7fb0b286ac15e38ccfacd79bc6bc470206a6", func := "puncheon/puncheonlaw18.Body0Decode", spec := "body0Decode", unfollowed := true, recurses := true, apart := false }
def Body0DecodeSaid : Prop := body0DecodeRow.holds Tryz.pinned (OpenSpec.ofChange body0DecodeSpec)

/-- ITS FALSE NEIGHBOUR: 'it returns false'. Refute it at one input. -/
def body0DecodeWrong : ChangeSpec := { name := "body0Decode", fn := fun _ => fun
  | [d1, d2] => { results := [.lit (.bool false)], args := [d1, d2] }
  | _ => none }
def Body0DecodeWrongFalsely : Prop := body0DecodeRow.holds Tryz.pinned (OpenSpec.ofChange body0DecodeWrong)

/-- 'puncheonlaw20.Body1Encode': WHATEVER THE INPUT: true; the input reads as it did. -/
def body1EncodeSpec : ChangeSpec := { name := "body1Encode", fn := fun _ => fun
  | [d] => { results := [.lit (.bool true)], args := [d] }
  | _ => none }
def body1EncodeRow : OpenClaim := { program := "ytipjlneepponpaagreat", sum := "bfa43d3c1617440954960104e7fe7fb0b286ac15e38ccfacd79bc6bc470206a6", func := "puncheon/puncheonlaw20.Body1Encode", spec := "body1Encode", unfollowed := true, recurses := true, apart := false }
def Body1EncodeSaid : Prop := body1EncodeRow.holds Tryz.pinned (OpenSpec.ofChange body1EncodeSpec)

/-- ITS FALSE NEIGHBOUR: 'it returns false'. Refute it at one input. -/
def body1EncodeWrong : ChangeSpec := { name := "body1Encode", fn := fun _ => fun
  | [d] => { results := [.lit (.bool false)], args := [d] }
  | _ => none }
def Body1EncodeWrongFalsely : Prop := body1EncodeRow.holds Tryz.pinned (OpenSpec.ofChange body1EncodeWrong)

/-- 'puncheonlaw20.Body1Decode': WHATEVER THE INPUT: true; the input reads as it did. -/
def body1DecodeSpec : ChangeSpec := { name := "body1Decode", fn := fun _ => fun
  | [d1, d2] => { results := [.lit (.bool true)], args := [d1, d2] }
  | _ => none }
def body1DecodeRow : OpenClaim := { program := "ytipjlneepponpaagreat", sum := "bfa43d3c1617440954960104e7fe7fb0b286ac15e38ccfacd79bc6bc470206a6", func := "puncheon/puncheonlaw20.Body1Decode", spec := "body1Decode", unfollowed := true, recurses := true, apart := false }
def Body1DecodeSaid : Prop := body1DecodeRow.holds Tryz.pinned (OpenSpec.ofChange body1DecodeSpec)

/-- ITS FALSE NEIGHBOUR: 'it returns false'. Refute it at one input. -/
def body1DecodeWrong : ChangeSpec := { name := "body1Decode", fn := fun _ => fun
  | [d1, d2] => { results := [.lit (.bool false)], args := [d1, d2] }
  | _ => none }
def Body1DecodeWrongFalsely : Prop := body1DecodeRow.holds Tryz.pinned (OpenSpec.ofChange body1DecodeWrong)

/- THE SECOND FORM. 'bulk': how many values and letters a reading holds, each counted each time it is reached (what is shared counts as often as it is met; a slice's spare places count too). A statement '..UptoSaid' is the law's where the arguments, and the package variables that the reading takes, are together of bulk at most 1048576: NARROWER than '..Said'. Prove '..Said' where nothing that the law and all that it calls make is longer than what came in: it says more and counts as full. Else prove '..UptoSaid'. A law counts once. -/
mutual
def uptoBulk {H : Type} : DataW H → Nat
  | .lit (.string bytes) => bytes.length + 1
  | .lit _ => 1
  | .nil => 1
  | .ptr d => uptoBulk d + 1
  | .slice elems spare => uptoBulkAll elems + uptoBulkAll spare + 1
  | .agg parts => uptoBulkAll parts + 1
  | .iface _ d => uptoBulk d + 1
  | .map entries => uptoBulkEntries entries + 1
  | .held _ => 1
def uptoBulkAll {H : Type} : List (DataW H) → Nat
  | [] => 0
  | d :: r => uptoBulk d + uptoBulkAll r
def uptoBulkEntries {H : Type} : List (Lit × DataW H) → Nat
  | [] => 0
  | x :: r => uptoBulkEntry x + uptoBulkEntries r
def uptoBulkEntry {H : Type} : Lit × DataW H → Nat
  | (.string bytes, d) => bytes.length + uptoBulk d + 1
  | (_, d) => uptoBulk d + 1
 end
def uptoSmall : (H : Type) → List (DataW H) → Bool := fun _ ds => decide (uptoBulkAll ds ≤ 1048576)
def OpenSpec.upto (s : _root_.Go.ChangeSpec) : _root_.Go.OpenSpec := { _root_.Go.OpenSpec.ofChange s with cond := some uptoSmall }

/-- 'puncheonlaw18.Body0Encode', WHERE WHAT IT READS IS OF BULK AT MOST 1048576: true; the input reads as it did. -/
def body0EncodeUptoRow : OpenClaim := { program := "ytipjlneepponpaagreat", sum := "bfa43d3c1617440954960104e7fe7fb0b286ac15e38ccfacd79bc6bc470206a6", func := "puncheon/puncheonlaw18.Body0Encode", spec := "body0Encode", unfollowed := true, recurses := true, apart := false, narrowed := true }
def Body0EncodeUptoSaid : Prop := body0EncodeUptoRow.holds Tryz.pinned (OpenSpec.upto body0EncodeSpec)

/-- 'puncheonlaw18.Body0Decode', WHERE WHAT IT READS IS OF BULK AT MOST 1048576: true; the input reads as it did. -/
def body0DecodeUptoRow : OpenClaim := { program := "ytipjlneepponpaagreat", sum := "bfa43d3c1617440954960104e7fe7fb0b286ac15e38ccfacd79bc6bc470206a6", func := "puncheon/puncheonlaw18.Body0Decode", spec := "body0Decode", unfollowed := true, recurses := true, apart := false, narrowed := true }
def Body0DecodeUptoSaid : Prop := body0DecodeUptoRow.holds Tryz.pinned (OpenSpec.upto body0DecodeSpec)

/-- 'puncheonlaw20.Body1Encode', WHERE WHAT IT READS IS OF BULK AT MOST 1048576: true; the input reads as it did. -/
def body1EncodeUptoRow : OpenClaim := { program := "ytipjlneepponpaagreat", sum := "bfa43d3c1617440954960104e7fe7fb0b286ac15e38ccfacd79bc6bc470206a6", func := "puncheon/puncheonlaw20.Body1Encode", spec := "body1Encode", unfollowed := true, recurses := true, apart := false, narrowed := true }
def Body1EncodeUptoSaid : Prop := body1EncodeUptoRow.holds Tryz.pinned (OpenSpec.upto body1EncodeSpec)

/-- 'puncheonlaw20.Body1Decode', WHERE WHAT IT READS IS OF BULK AT MOST 1048576: true; the input reads as it did. -/
def body1DecodeUptoRow : OpenClaim := { program := "ytipjlneepponpaagreat", sum := "bfa43d3c1617440954960104e7fe7fb0b286ac15e38ccfacd79bc6bc470206a6", func := "puncheon/puncheonlaw20.Body1Decode", spec := "body1Decode", unfollowed := true, recurses := true, apart := false, narrowed := true }
def Body1DecodeUptoSaid : Prop := body1DecodeUptoRow.holds Tryz.pinned (OpenSpec.upto body1DecodeSpec)

end Rows
end Go.Proofs.YtipjlneepponpaaGreat
