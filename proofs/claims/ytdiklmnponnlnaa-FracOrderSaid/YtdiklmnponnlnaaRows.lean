/-
  No cell of these rows narrows 'for every input' (looked for: loops, veiled, ifaces, maps, wideKeys, modest, calm, conditions, laid).
  DERIVED. THE GIVEN ROWS OF THIS SEAT. 5 by the template 'for every input the law returns true; each argument reads behind the call as it read before'; 0 by the template 'total and deterministic' (their statements: YtdiklmnponnlnaaTotals.lean).
  GIVEN WITH THE SEED: the statements are not yours to turn. If you find one false, say at which input.
  Laid BY PROGRAM, IN A SANDBOX (cutbox-rows.mjs): the forced cells as the released guide's own fill.sh prints them over the translation 9389583bf5cd02c5… (all of the seat's roots in one cut). By AI agents, Wed Nov 11 2026. No macro, syntax, notation, axiom, sorry.
-/
import Derived.Test.YtdiklmnponnlnaaChecked
import GoSem.Claim
import GoSem.ClaimJoined
import GoSem.ClaimMapViews
import Derived.JoinedTies
import Derived.KernelRfl
namespace Go.Proofs.Ytdiklmnponnlnaa
/- THE CELL 'sum', in the pinned program and in every row, IS THE sha256 OF THE DUMP (.gsa) THAT YtdiklmnponnlnaaProg.lean LOADS. Nothing in Lean hashes anything: it is a label: what it is worth is what the hold of that sum in a sandbox is worth. -/
noncomputable def Try.pinned : Pinned := { name := "ytdiklmnponnlnaa", sum := "9389583bf5cd02c5a9389890e094aead851de02430425c57c267a1f00669b78a", checked := Try.checked }
namespace Rows
def none {H : Type} : Left H := { results := [], args := [] }

/-- 'puncheonlaw09.FracTells': WHATEVER THE INPUT: true; the input reads as it did. -/
def fracTellsSpec : ChangeSpec := { name := "fracTells", fn := fun _ => fun
  | [d1, d2] => { results := [.lit (.bool true)], args := [d1, d2] }
  | _ => none }
def fracTellsRow : OpenClaim := { program := "ytdiklmnponnlnaa", sum := "9389583bf5cd02c5a9389890e094aead851de02430425c57c267a1f00669b78a", func := "puncheon/puncheonlaw09.FracTells", spec := "fracTells", unfollowed := true, recurses := true, apart := false }
def FracTellsSaid : Prop := fracTellsRow.holds Try.pinned (OpenSpec.ofChange fracTellsSpec)

/-- ITS FALSE NEIGHBOUR: 'it returns false'. Refute it at one input. -/
def fracTellsWrong : ChangeSpec := { name := "fracTells", fn := fun _ => fun
  | [d1, d2] => { results := [.lit (.bool false)], args := [d1, d2] }
  | _ => none }
def FracTellsWrongFalsely : Prop := fracTellsRow.holds Try.pinned (OpenSpec.ofChange fracTellsWrong)

/-- 'puncheonlaw09.FracOrder': WHATEVER THE INPUT: true; the input reads as it did. -/
def fracOrderSpec : ChangeSpec := { name := "fracOrder", fn := fun _ => fun
  | [d1, d2, d3, d4, d5, d6, d7, d8, d9] => { results := [.lit (.bool true)], args := [d1, d2, d3, d4, d5, d6, d7, d8, d9] }
  | _ => none }
def fracOrderRow : OpenClaim := { program := "ytdiklmnponnlnaa", sum := "9389583bf5cd02c5a9389890e094aead851de02430425c57c267a1f00669b78a", func := "puncheon/puncheonlaw09.FracOrder", spec := "fracOrder", unfollowed := true, recurses := true, apart := false }
def FracOrderSaid : Prop := fracOrderRow.holds Try.pinned (OpenSpec.ofChange fracOrderSpec)

/-- ITS FALSE NEIGHBOUR: 'it returns false'. Refute it at one input. -/
def fracOrderWrong : ChangeSpec := { name := "fracOrder", fn := fun _ => fun
  | [d1, d2, d3, d4, d5, d6, d7, d8, d9] => { results := [.lit (.bool false)], args := [d1, d2, d3, d4, d5, d6, d7, d8, d9] }
  | _ => none }
def FracOrderWrongFalsely : Prop := fracOrderRow.holds Try.pinned (OpenSpec.ofChange fracOrderWrong)

/-- 'puncheonlaw09.FracScaled': WHATEVER THE INPUT: true; the input reads as it did. -/
def fracScaledSpec : ChangeSpec := { name := "fracScaled", fn := fun _ => fun
  | [d1, d2, d3] => { results := [.lit (.bool true)], args := [d1, d2, d3] }
  | _ => none }
def fracScaledRow : OpenClaim := { program := "ytdiklmnponnlnaa", sum := "9389583bf5cd02c5a9389890e094aead851de02430425c57c267a1f00669b78a", func := "puncheon/puncheonlaw09.FracScaled", spec := "fracScaled", unfollowed := true, recurses := true, apart := false }
def FracScaledSaid : Prop := fracScaledRow.holds Try.pinned (OpenSpec.ofChange fracScaledSpec)

/-- ITS FALSE NEIGHBOUR: 'it returns false'. Refute it at one input. -/
def fracScaledWrong : ChangeSpec := { name := "fracScaled", fn := fun _ => fun
  | [d1, d2, d3] => { results := [.lit (.bool false)], args := [d1, d2, d3] }
  | _ => none }
def FracScaledWrongFalsely : Prop := fracScaledRow.holds Try.pinned (OpenSpec.ofChange fracScaledWrong)

/-- 'puncheonlaw09.FracMiddle': WHATEVER THE INPUT: true; the input reads as it did. -/
def fracMiddleSpec : ChangeSpec := { name := "fracMiddle", fn := fun _ => fun
  | [d1, d2, d3, d4, d5] => { results := [.lit (.bool true)], args := [d1, d2, d3, d4, d5] }
  | _ => none }
def fracMiddleRow : OpenClaim := { program := "ytdiklmnponnlnaa", sum := "9389583bf5cd02c5a9389890e094aead851de02430425c57c267a1f00669b78a", func := "puncheon/puncheonlaw09.FracMiddle", spec := "fracMiddle", unfollowed := true, recurses := true, apart := false }
def FracMiddleSaid : Prop := fracMiddleRow.holds Try.pinned (OpenSpec.ofChange fracMiddleSpec)

/-- ITS FALSE NEIGHBOUR: 'it returns false'. Refute it at one input. -/
def fracMiddleWrong : ChangeSpec := { name := "fracMiddle", fn := fun _ => fun
  | [d1, d2, d3, d4, d5] => { results := [.lit (.bool false)], args := [d1, d2, d3, d4, d5] }
  | _ => none }
def FracMiddleWrongFalsely : Prop := fracMiddleRow.holds Try.pinned (OpenSpec.ofChange fracMiddleWrong)

/-- 'puncheonlaw09.FracNext': WHATEVER THE INPUT: true; the input reads as it did. -/
def fracNextSpec : ChangeSpec := { name := "fracNext", fn := fun _ => fun
  | [d1, d2, d3] => { results := [.lit (.bool true)], args := [d1, d2, d3] }
  | _ => none }
def fracNextRow : OpenClaim := { program := "ytdiklmnponnlnaa", sum := "9389583bf5cd02c5a9389890e094aead851de02430425c57c267a1f00669b78a", func := "puncheon/puncheonlaw09.FracNext", spec := "fracNext", unfollowed := true, recurses := true, apart := false }
def FracNextSaid : Prop := fracNextRow.holds Try.pinned (OpenSpec.ofChange fracNextSpec)

/-- ITS FALSE NEIGHBOUR: 'it returns false'. Refute it at one input. -/
def fracNextWrong : ChangeSpec := { name := "fracNext", fn := fun _ => fun
  | [d1, d2, d3] => { results := [.lit (.bool false)], args := [d1, d2, d3] }
  | _ => none }
def FracNextWrongFalsely : Prop := fracNextRow.holds Try.pinned (OpenSpec.ofChange fracNextWrong)

/- THE SECOND FORM. 'bulk': how many values and letters a reading holds, each counted each time it is reached (what is shared counts as often as it is met; a slice's spare places count too). A statement '..UptoSaid' is the law's where the arguments, and the package variables that the reading takes, are together of bulk at most 1048576: NARROWER than '..Said'. Prove '..Said' where nothing that the law and all that it calls make is longer than what came in: it says more and counts as full. Else prove '..UptoSaid'. A law counts once. -/
mutual
def uptoBulk {H : Type} : DataW H → Nat
  | .lit (.string bytes) => bytes.length + 1
  | .lit _ => 1
  | .nil => 1
  | .ptr d => uptoBulk d + 1
  | .slice elems spare => uptoBulkAll elems + uptoBulkAll spare + 1
  | .agg parts => uptoBulkAll parts + 1
  | .iface _ d => uptoBulk d + 1
  | .map entries => uptoBulkEntries entries + 1
  | .held _ => 1
def uptoBulkAll {H : Type} : List (DataW H) → Nat
  | [] => 0
  | d :: r => uptoBulk d + uptoBulkAll r
def uptoBulkEntries {H : Type} : List (Lit × DataW H) → Nat
  | [] => 0
  | x :: r => uptoBulkEntry x + uptoBulkEntries r
def uptoBulkEntry {H : Type} : Lit × DataW H → Nat
  | (.string bytes, d) => bytes.length + uptoBulk d + 1
  | (_, d) => uptoBulk d + 1
 end
def uptoSmall : (H : Type) → List (DataW H) → Bool := fun _ ds => decide (uptoBulkAll ds ≤ 1048576)
def OpenSpec.upto (s : _root_.Go.ChangeSpec) : _root_.Go.OpenSpec := { _root_.Go.OpenSpec.ofChange s with cond := some uptoSmall }

/-- 'puncheonlaw09.FracTells', WHERE WHAT IT READS IS OF BULK AT MOST 1048576: true; the input reads as it did. -/
def fracTellsUptoRow : OpenClaim := { program := "ytdiklmnponnlnaa", sum := "9389583bf5cd02c5a9389890e094aead851de02430425c57c267a1f00669b78a", func := "puncheon/puncheonlaw09.FracTells", spec := "fracTells", unfollowed := true, recurses := true, apart := false, narrowed := true }
def FracTellsUptoSaid : Prop := fracTellsUptoRow.holds Try.pinned (OpenSpec.upto fracTellsSpec)

/-- 'puncheonlaw09.FracOrder', WHERE WHAT IT READS IS OF BULK AT MOST 1048576: true; the input reads as it did. -/
def fracOrderUptoRow : OpenClaim := { program := "ytdiklmnponnlnaa", sum := "9389583bf5cd02c5a9389890e094aead851de02430425c57c267a1f00669b78a", func := "puncheon/puncheonlaw09.FracOrder", spec := "fracOrder", unfollowed := true, recurses := true, apart := false, narrowed := true }
def FracOrderUptoSaid : Prop := fracOrderUptoRow.holds Try.pinned (OpenSpec.upto fracOrderSpec)

/-- 'puncheonlaw09.FracScaled', WHERE WHAT IT READS IS OF BULK AT MOST 1048576: true; the input reads as it did. -/
def fracScaledUptoRow : OpenClaim := { program := "ytdiklmnponnlnaa", sum := "9389583bf5cd02c5a9389890e094aead851de02430425c57c267a1f00669b78a", func := "puncheon/puncheonlaw09.FracScaled", spec := "fracScaled", unfollowed := true, recurses := true, apart := false, narrowed := true }
def FracScaledUptoSaid : Prop := fracScaledUptoRow.holds Try.pinned (OpenSpec.upto fracScaledSpec)

/-- 'puncheonlaw09.FracMiddle', WHERE WHAT IT READS IS OF BULK AT MOST 1048576: true; the input reads as it did. -/
def fracMiddleUptoRow : OpenClaim := { program := "ytdiklmnponnlnaa", sum := "9389583bf5cd02c5a9389890e094aead851de02430425c57c267a1f00669b78a", func := "puncheon/puncheonlaw09.FracMiddle", spec := "fracMiddle", unfollowed := true, recurses := true, apart := false, narrowed := true }
def FracMiddleUptoSaid : Prop := fracMiddleUptoRow.holds Try.pinned (OpenSpec.upto fracMiddleSpec)

/-- 'puncheonlaw09.FracNext', WHERE WHAT IT READS IS OF BULK AT MOST 1048576: true; the input reads as it did. -/
def fracNextUptoRow : OpenClaim := { program := "ytdiklmnponnlnaa", sum := "9389583bf5cd02c5a9389890e094aead851de02430425c57c267a1f00669b78a", func := "puncheon/puncheonlaw09.FracNext", spec := "fracNext", unfollowed := true, recurses := true, apart := false, narrowed := true }
def FracNextUptoSaid : Prop := fracNextUptoRow.holds Try.pinned (OpenSpec.upto fracNextSpec)

end Rows
end Go.Proofs.Ytdiklmnponnlnaa
