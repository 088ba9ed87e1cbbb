/-
  No cell of these rows narrows 'for every input' (looked for: loops, veiled, ifaces, maps, wideKeys, modest, calm, conditions, laid).
  DERIVED. THE GIVEN ROWS OF THIS SEAT. 7 by the template 'for every input the law returns true; each argument reads behind the call as it read before'; 0 by the template 'total and deterministic' (their statements: YtfnobinenolhhaaTotals.lean).
  GIVEN WITH THE SEED: the statements are not yours to turn. If you find one false, say at which input.
  Laid BY PROGRAM, IN A SANDBOX (cutbox-rows.mjs): the forced cells as the released guide's own fill.sh prints them over the translation 0e6da3419ae6e8da… (all of the seat's roots in one cut). By AI agents, Wed Nov 11 2026. No macro, syntax, notation, axiom, sorry.
-/
import Derived.Test.YtfnobinenolhhaaChecked
import GoSem.Claim
import GoSem.ClaimJoined
import GoSem.ClaimMapViews
import Derived.JoinedTies
import Derived.KernelRfl
namespace Go.Proofs.Ytfnobinenolhhaa
/- THE CELL 'sum', in the pinned program and in every row, IS THE sha256 OF THE DUMP (.gsa) THAT YtfnobinenolhhaaProg.lean LOADS. Nothing in Lean hashes anything: it is a label: what it is worth is what the hold of that sum in a sandbox is worth. -/
noncomputable def Try.pinned : Pinned := { name := "ytfnobinenolhhaa", sum := "0e6da3419ae6e8da10b5c245cd5786ba44f59b8f7650898a89645c6280781cf0", checked := Try.checked }
namespace Rows
def none {H : Type} : Left H := { results := [], args := [] }

/-- 'puncheonlaw17.LanesEncode': WHATEVER THE INPUT: true; the input reads as it did. -/
def lanesEncodeSpec : ChangeSpec := { name := "lanesEncode", fn := fun _ => fun
  | [d1, d2] => { results := [.lit (.bool true)], args := [d1, d2] }
  | _ => none }
def lanesEncodeRow : OpenClaim := { program := "ytfnobinenolhhaa", sum := "0e6da3419ae6e8da10b5c245cd5786ba44f59b8f7650898a89645c6280781cf0", func := "puncheon/puncheonlaw17.LanesEncode", spec := "lanesEncode", unfollowed := true, recurses := true, apart := false }
def LanesEncodeSaid : Prop := lanesEncodeRow.holds Try.pinned (OpenSpec.ofChange lanesEncodeSpec)

/-- ITS FALSE NEIGHBOUR: 'it returns false'. Refute it at one input. -/
def lanesEncodeWrong : ChangeSpec := { name := "lanesEncode", fn := fun _ => fun
  | [d1, d2] => { results := [.lit (.bool false)], args := [d1, d2] }
  | _ => none }
def LanesEncodeWrongFalsely : Prop := lanesEncodeRow.holds Try.pinned (OpenSpec.ofChange lanesEncodeWrong)

/-- 'puncheonlaw17.LanesDecode': WHATEVER THE INPUT: true; the input reads as it did. -/
def lanesDecodeSpec : ChangeSpec := { name := "lanesDecode", fn := fun _ => fun
  | [d1, d2, d3] => { results := [.lit (.bool true)], args := [d1, d2, d3] }
  | _ => none }
def lanesDecodeRow : OpenClaim := { program := "ytfnobinenolhhaa", sum := "0e6da3419ae6e8da10b5c245cd5786ba44f59b8f7650898a89645c6280781cf0", func := "puncheon/puncheonlaw17.LanesDecode", spec := "lanesDecode", unfollowed := true, recurses := true, apart := false }
def LanesDecodeSaid : Prop := lanesDecodeRow.holds Try.pinned (OpenSpec.ofChange lanesDecodeSpec)

/-- ITS FALSE NEIGHBOUR: 'it returns false'. Refute it at one input. -/
def lanesDecodeWrong : ChangeSpec := { name := "lanesDecode", fn := fun _ => fun
  | [d1, d2, d3] => { results := [.lit (.bool false)], args := [d1, d2, d3] }
  | _ => none }
def LanesDecodeWrongFalsely : Prop := lanesDecodeRow.holds Try.pinned (OpenSpec.ofChange lanesDecodeWrong)

/-- 'puncheonlaw17.LanesBack': WHATEVER THE INPUT: true; the input reads as it did. -/
def lanesBackSpec : ChangeSpec := { name := "lanesBack", fn := fun _ => fun
  | [d1, d2, d3] => { results := [.lit (.bool true)], args := [d1, d2, d3] }
  | _ => none }
def lanesBackRow : OpenClaim := { program := "ytfnobinenolhhaa", sum := "0e6da3419ae6e8da10b5c245cd5786ba44f59b8f7650898a89645c6280781cf0", func := "puncheon/puncheonlaw17.LanesBack", spec := "lanesBack", unfollowed := true, recurses := true, apart := false }
def LanesBackSaid : Prop := lanesBackRow.holds Try.pinned (OpenSpec.ofChange lanesBackSpec)

/-- ITS FALSE NEIGHBOUR: 'it returns false'. Refute it at one input. -/
def lanesBackWrong : ChangeSpec := { name := "lanesBack", fn := fun _ => fun
  | [d1, d2, d3] => { results := [.lit (.bool false)], args := [d1, d2, d3] }
  | _ => none }
def LanesBackWrongFalsely : Prop := lanesBackRow.holds Try.pinned (OpenSpec.ofChange lanesBackWrong)

/-- 'puncheonlaw17.LanesOne': WHATEVER THE INPUT: true; the input reads as it did. -/
def lanesOneSpec : ChangeSpec := { name := "lanesOne", fn := fun _ => fun
  | [d1, d2, d3, d4] => { results := [.lit (.bool true)], args := [d1, d2, d3, d4] }
  | _ => none }
def lanesOneRow : OpenClaim := { program := "ytfnobinenolhhaa", sum := "0e6da3419ae6e8da10b5c245cd5786ba44f59b8f7650898a89645c6280781cf0", func := "puncheon/puncheonlaw17.LanesOne", spec := "lanesOne", unfollowed := true, recurses := true, apart := false }
def LanesOneSaid : Prop := lanesOneRow.holds Try.pinned (OpenSpec.ofChange lanesOneSpec)

/-- ITS FALSE NEIGHBOUR: 'it returns false'. Refute it at one input. -/
def lanesOneWrong : ChangeSpec := { name := "lanesOne", fn := fun _ => fun
  | [d1, d2, d3, d4] => { results := [.lit (.bool false)], args := [d1, d2, d3, d4] }
  | _ => none }
def LanesOneWrongFalsely : Prop := lanesOneRow.holds Try.pinned (OpenSpec.ofChange lanesOneWrong)

/-- 'puncheonlaw17.LanesCheap': WHATEVER THE INPUT: true; the input reads as it did. -/
def lanesCheapSpec : ChangeSpec := { name := "lanesCheap", fn := fun _ => fun
  | [d1, d2] => { results := [.lit (.bool true)], args := [d1, d2] }
  | _ => none }
def lanesCheapRow : OpenClaim := { program := "ytfnobinenolhhaa", sum := "0e6da3419ae6e8da10b5c245cd5786ba44f59b8f7650898a89645c6280781cf0", func := "puncheon/puncheonlaw17.LanesCheap", spec := "lanesCheap", unfollowed := true, recurses := true, apart := false }
def LanesCheapSaid : Prop := lanesCheapRow.holds Try.pinned (OpenSpec.ofChange lanesCheapSpec)

/-- ITS FALSE NEIGHBOUR: 'it returns false'. Refute it at one input. -/
def lanesCheapWrong : ChangeSpec := { name := "lanesCheap", fn := fun _ => fun
  | [d1, d2] => { results := [.lit (.bool false)], args := [d1, d2] }
  | _ => none }
def LanesCheapWrongFalsely : Prop := lanesCheapRow.holds Try.pinned (OpenSpec.ofChange lanesCheapWrong)

/-- 'puncheonlaw17.LanesCuts': WHATEVER THE INPUT: true; the input reads as it did. -/
def lanesCutsSpec : ChangeSpec := { name := "lanesCuts", fn := fun _ => fun
  | [d1, d2, d3] => { results := [.lit (.bool true)], args := [d1, d2, d3] }
  | _ => none }
def lanesCutsRow : OpenClaim := { program := "ytfnobinenolhhaa", sum := "0e6da3419ae6e8da10b5c245cd5786ba44f59b8f7650898a89645c6280781cf0", func := "puncheon/puncheonlaw17.LanesCuts", spec := "lanesCuts", unfollowed := true, recurses := true, apart := false }
def LanesCutsSaid : Prop := lanesCutsRow.holds Try.pinned (OpenSpec.ofChange lanesCutsSpec)

/-- ITS FALSE NEIGHBOUR: 'it returns false'. Refute it at one input. -/
def lanesCutsWrong : ChangeSpec := { name := "lanesCuts", fn := fun _ => fun
  | [d1, d2, d3] => { results := [.lit (.bool false)], args := [d1, d2, d3] }
  | _ => none }
def LanesCutsWrongFalsely : Prop := lanesCutsRow.holds Try.pinned (OpenSpec.ofChange lanesCutsWrong)

/-- 'puncheonlaw17.LanesLists': WHATEVER THE INPUT: true; the input reads as it did. -/
def lanesListsSpec : ChangeSpec := { name := "lanesLists", fn := fun _ => fun
  | [d] => { results := [.lit (.bool true)], args := [d] }
  | _ => none }
def lanesListsRow : OpenClaim := { program := "ytfnobinenolhhaa", sum := "0e6da3419ae6e8da10b5c245cd5786ba44f59b8f7650898a89645c6280781cf0", func := "puncheon/puncheonlaw17.LanesLists", spec := "lanesLists", unfollowed := true, recurses := true, apart := false }
def LanesListsSaid : Prop := lanesListsRow.holds Try.pinned (OpenSpec.ofChange lanesListsSpec)

/-- ITS FALSE NEIGHBOUR: 'it returns false'. Refute it at one input. -/
def lanesListsWrong : ChangeSpec := { name := "lanesLists", fn := fun _ => fun
  | [d] => { results := [.lit (.bool false)], args := [d] }
  | _ => none }
def LanesListsWrongFalsely : Prop := lanesListsRow.holds Try.pinned (OpenSpec.ofChange lanesListsWrong)

/- THE SECOND FORM. 'bulk': how many values and letters a reading holds, each counted each time it is reached (what is shared counts as often as it is met; a slice's spare places count too). A statement '..UptoSaid' is the law's where the arguments, and the package variables that the reading takes, are together of bulk at most 1048576: NARROWER than '..Said'. Prove '..Said' where nothing that the law and all that it calls make is longer than what came in: it says more and counts as full. Else prove '..UptoSaid'. A law counts once. -/
mutual
def uptoBulk {H : Type} : DataW H → Nat
  | .lit (.string bytes) => bytes.length + 1
  | .lit _ => 1
  | .nil => 1
  | .ptr d => uptoBulk d + 1
  | .slice elems spare => uptoBulkAll elems + uptoBulkAll spare + 1
  | .agg parts => uptoBulkAll parts + 1
  | .iface _ d => uptoBulk d + 1
  | .map entries => uptoBulkEntries entries + 1
  | .held _ => 1
def uptoBulkAll {H : Type} : List (DataW H) → Nat
  | [] => 0
  | d :: r => uptoBulk d + uptoBulkAll r
def uptoBulkEntries {H : Type} : List (Lit × DataW H) → Nat
  | [] => 0
  | x :: r => uptoBulkEntry x + uptoBulkEntries r
def uptoBulkEntry {H : Type} : Lit × DataW H → Nat
  | (.string bytes, d) => bytes.length + uptoBulk d + 1
  | (_, d) => uptoBulk d + 1
 end
def uptoSmall : (H : Type) → List (DataW H) → Bool := fun _ ds => decide (uptoBulkAll ds ≤ 1048576)
def OpenSpec.upto (s : _root_.Go.ChangeSpec) : _root_.Go.OpenSpec := { _root_.Go.OpenSpec.ofChange s with cond := some uptoSmall }

/-- 'puncheonlaw17.LanesEncode', WHERE WHAT IT READS IS OF BULK AT MOST 1048576: true; the input reads as it did. -/
def lanesEncodeUptoRow : OpenClaim := { program := "ytfnobinenolhhaa", sum := "0e6da3419ae6e8da10b5c245cd5786ba44f59b8f7650898a89645c6280781cf0", func := "puncheon/puncheonlaw17.LanesEncode", spec := "lanesEncode", unfollowed := true, recurses := true, apart := false, narrowed := true }
def LanesEncodeUptoSaid : Prop := lanesEncodeUptoRow.holds Try.pinned (OpenSpec.upto lanesEncodeSpec)

/-- 'puncheonlaw17.LanesDecode', WHERE WHAT IT READS IS OF BULK AT MOST 1048576: true; the input reads as it did. -/
def lanesDecodeUptoRow : OpenClaim := { program := "ytfnobinenolhhaa", sum := "0e6da3419ae6e8da10b5c245cd5786ba44f59b8f7650898a89645c6280781cf0", func := "puncheon/puncheonlaw17.LanesDecode", spec := "lanesDecode", unfollowed := true, recurses := true, apart := false, narrowed := true }
def LanesDecodeUptoSaid : Prop := lanesDecodeUptoRow.holds Try.pinned (OpenSpec.upto lanesDecodeSpec)

/-- 'puncheonlaw17.LanesBack', WHERE WHAT IT READS IS OF BULK AT MOST 1048576: true; the input reads as it did. -/
def lanesBackUptoRow : OpenClaim := { program := "ytfnobinenolhhaa", sum := "0e6da3419ae6e8da10b5c245cd5786ba44f59b8f7650898a89645c6280781cf0", func := "puncheon/puncheonlaw17.LanesBack", spec := "lanesBack", unfollowed := true, recurses := true, apart := false, narrowed := true }
def LanesBackUptoSaid : Prop := lanesBackUptoRow.holds Try.pinned (OpenSpec.upto lanesBackSpec)

/-- 'puncheonlaw17.LanesOne', WHERE WHAT IT READS IS OF BULK AT MOST 1048576: true; the input reads as it did. -/
def lanesOneUptoRow : OpenClaim := { program := "ytfnobinenolhhaa", sum := "0e6da3419ae6e8da10b5c245cd5786ba44f59b8f7650898a89645c6280781cf0", func := "puncheon/puncheonlaw17.LanesOne", spec := "lanesOne", unfollowed := true, recurses := true, apart := false, narrowed := true }
def LanesOneUptoSaid : Prop := lanesOneUptoRow.holds Try.pinned (OpenSpec.upto lanesOneSpec)

/-- 'puncheonlaw17.LanesCheap', WHERE WHAT IT READS IS OF BULK AT MOST 1048576: true; the input reads as it did. -/
def lanesCheapUptoRow : OpenClaim := { program := "ytfnobinenolhhaa", sum := "0e6da3419ae6e8da10b5c245cd5786ba44f59b8f7650898a89645c6280781cf0", func := "puncheon/puncheonlaw17.LanesCheap", spec := "lanesCheap", unfollowed := true, recurses := true, apart := false, narrowed := true }
def LanesCheapUptoSaid : Prop := lanesCheapUptoRow.holds Try.pinned (OpenSpec.upto lanesCheapSpec)

/-- 'puncheonlaw17.LanesCuts', WHERE WHAT IT READS IS OF BULK AT MOST 1048576: true; the input reads as it did. -/
def lanesCutsUptoRow : OpenClaim := { program := "ytfnobinenolhhaa", sum := "0e6da3419ae6e8da10b5c245cd5786ba44f59b8f7650898a89645c6280781cf0", func := "puncheon/puncheonlaw17.LanesCuts", spec := "lanesCuts", unfollowed := true, recurses := true, apart := false, narrowed := true }
def LanesCutsUptoSaid : Prop := lanesCutsUptoRow.holds Try.pinned (OpenSpec.upto lanesCutsSpec)

/-- 'puncheonlaw17.LanesLists', WHERE WHAT IT READS IS OF BULK AT MOST 1048576: true; the input reads as it did. -/
def lanesListsUptoRow : OpenClaim := { program := "ytfnobinenolhhaa", sum := "0e6da3419ae6e8da10b5c245cd5786ba44f59b8f7650898a89645c6280781cf0", func := "puncheon/puncheonlaw17.LanesLists", spec := "lanesLists", unfollowed := true, recurses := true, apart := false, narrowed := true }
def LanesListsUptoSaid : Prop := lanesListsUptoRow.holds Try.pinned (OpenSpec.upto lanesListsSpec)

end Rows
end Go.Proofs.Ytfnobinenolhhaa
