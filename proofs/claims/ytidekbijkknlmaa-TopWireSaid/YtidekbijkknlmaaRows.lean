/-
  No cell of these rows narrows 'for every input' (looked for: loops, veiled, ifaces, maps, wideKeys, modest, calm, conditions, laid).
  DERIVED. THE GIVEN ROWS OF THIS SEAT. 8 by the template 'for every input the law returns true; each argument reads behind the call as it read before'; 0 by the template 'total and deterministic' (their statements: YtidekbijkknlmaaTotals.lean).
  GIVEN WITH THE SEED: the statements are not yours to turn. If you find one false, say at which input.
  Laid BY PROGRAM, IN A SANDBOX (cutbox-rows.mjs): the forced cells as the released guide's own fill.sh prints them over the translation 0d6167c9975dc573… (all of the seat's roots in one cut). By AI agents, Wed Nov 11 2026. No macro, syntax, notation, axiom, sorry.
-/
import Derived.Test.YtidekbijkknlmaaChecked
import GoSem.Claim
import GoSem.ClaimJoined
import GoSem.ClaimMapViews
import Derived.JoinedTies
import Derived.KernelRfl
namespace Go.Proofs.Ytidekbijkknlmaa
/- THE CELL 'sum', in the pinned program and in every row, IS THE sha256 OF THE DUMP (.gsa) THAT YtidekbijkknlmaaProg.lean LOADS. Nothing in Lean hashes anything: it is a label: what it is worth is what the hold of that sum in a sandbox is worth. -/
noncomputable def Try.pinned : Pinned := { name := "ytidekbijkknlmaa", sum := "0d6167c9975dc573dadf30de87e69e80da374aec1bf621194cfdbb3c32a8634a", checked := Try.checked }
namespace Rows
def none {H : Type} : Left H := { results := [], args := [] }

/-- 'calliperlaw19.GatherPlays': WHATEVER THE INPUT: true; the input reads as it did. -/
def gatherPlaysSpec : ChangeSpec := { name := "gatherPlays", fn := fun _ => fun
  | [d1, d2] => { results := [.lit (.bool true)], args := [d1, d2] }
  | _ => none }
def gatherPlaysRow : OpenClaim := { program := "ytidekbijkknlmaa", sum := "0d6167c9975dc573dadf30de87e69e80da374aec1bf621194cfdbb3c32a8634a", func := "calliper/calliperlaw19.GatherPlays", spec := "gatherPlays", apart := false }
def GatherPlaysSaid : Prop := gatherPlaysRow.holds Try.pinned (OpenSpec.ofChange gatherPlaysSpec)

/-- ITS FALSE NEIGHBOUR: 'it returns false'. Refute it at one input. -/
def gatherPlaysWrong : ChangeSpec := { name := "gatherPlays", fn := fun _ => fun
  | [d1, d2] => { results := [.lit (.bool false)], args := [d1, d2] }
  | _ => none }
def GatherPlaysWrongFalsely : Prop := gatherPlaysRow.holds Try.pinned (OpenSpec.ofChange gatherPlaysWrong)

/-- 'calliperlaw19.GatherWhole': WHATEVER THE INPUT: true; the input reads as it did. -/
def gatherWholeSpec : ChangeSpec := { name := "gatherWhole", fn := fun _ => fun
  | [d1, d2, d3, d4] => { results := [.lit (.bool true)], args := [d1, d2, d3, d4] }
  | _ => none }
def gatherWholeRow : OpenClaim := { program := "ytidekbijkknlmaa", sum := "0d6167c9975dc573dadf30de87e69e80da374aec1bf621194cfdbb3c32a8634a", func := "calliper/calliperlaw19.GatherWhole", spec := "gatherWhole", unfollowed := true, recurses := true, apart := false }
def GatherWholeSaid : Prop := gatherWholeRow.holds Try.pinned (OpenSpec.ofChange gatherWholeSpec)

/-- ITS FALSE NEIGHBOUR: 'it returns false'. Refute it at one input. -/
def gatherWholeWrong : ChangeSpec := { name := "gatherWhole", fn := fun _ => fun
  | [d1, d2, d3, d4] => { results := [.lit (.bool false)], args := [d1, d2, d3, d4] }
  | _ => none }
def GatherWholeWrongFalsely : Prop := gatherWholeRow.holds Try.pinned (OpenSpec.ofChange gatherWholeWrong)

/-- 'callipertop.TopWire': WHATEVER THE INPUT: true; the input reads as it did. -/
def topWireSpec : ChangeSpec := { name := "topWire", fn := fun _ => fun
  | [d1, d2, d3] => { results := [.lit (.bool true)], args := [d1, d2, d3] }
  | _ => none }
def topWireRow : OpenClaim := { program := "ytidekbijkknlmaa", sum := "0d6167c9975dc573dadf30de87e69e80da374aec1bf621194cfdbb3c32a8634a", func := "calliper/callipertop.TopWire", spec := "topWire", inPlace := ["slices.overlaps[calliper/api.Frame]"], unfollowed := true, recurses := true, apart := false }
def TopWireSaid : Prop := topWireRow.holds Try.pinned (OpenSpec.ofChange topWireSpec)

/-- ITS FALSE NEIGHBOUR: 'it returns false'. Refute it at one input. -/
def topWireWrong : ChangeSpec := { name := "topWire", fn := fun _ => fun
  | [d1, d2, d3] => { results := [.lit (.bool false)], args := [d1, d2, d3] }
  | _ => none }
def TopWireWrongFalsely : Prop := topWireRow.holds Try.pinned (OpenSpec.ofChange topWireWrong)

/-- 'calliperlaw19.GatherMissing': WHATEVER THE INPUT: true; the input reads as it did. -/
def gatherMissingSpec : ChangeSpec := { name := "gatherMissing", fn := fun _ => fun
  | [d1, d2, d3] => { results := [.lit (.bool true)], args := [d1, d2, d3] }
  | _ => none }
def gatherMissingRow : OpenClaim := { program := "ytidekbijkknlmaa", sum := "0d6167c9975dc573dadf30de87e69e80da374aec1bf621194cfdbb3c32a8634a", func := "calliper/calliperlaw19.GatherMissing", spec := "gatherMissing", apart := false }
def GatherMissingSaid : Prop := gatherMissingRow.holds Try.pinned (OpenSpec.ofChange gatherMissingSpec)

/-- ITS FALSE NEIGHBOUR: 'it returns false'. Refute it at one input. -/
def gatherMissingWrong : ChangeSpec := { name := "gatherMissing", fn := fun _ => fun
  | [d1, d2, d3] => { results := [.lit (.bool false)], args := [d1, d2, d3] }
  | _ => none }
def GatherMissingWrongFalsely : Prop := gatherMissingRow.holds Try.pinned (OpenSpec.ofChange gatherMissingWrong)

/-- 'calliperlaw19.GatherNone': WHATEVER THE INPUT: true; the input reads as it did. -/
def gatherNoneSpec : ChangeSpec := { name := "gatherNone", fn := fun _ => fun
  | [d1, d2] => { results := [.lit (.bool true)], args := [d1, d2] }
  | _ => none }
def gatherNoneRow : OpenClaim := { program := "ytidekbijkknlmaa", sum := "0d6167c9975dc573dadf30de87e69e80da374aec1bf621194cfdbb3c32a8634a", func := "calliper/calliperlaw19.GatherNone", spec := "gatherNone", apart := false }
def GatherNoneSaid : Prop := gatherNoneRow.holds Try.pinned (OpenSpec.ofChange gatherNoneSpec)

/-- ITS FALSE NEIGHBOUR: 'it returns false'. Refute it at one input. -/
def gatherNoneWrong : ChangeSpec := { name := "gatherNone", fn := fun _ => fun
  | [d1, d2] => { results := [.lit (.bool false)], args := [d1, d2] }
  | _ => none }
def GatherNoneWrongFalsely : Prop := gatherNoneRow.holds Try.pinned (OpenSpec.ofChange gatherNoneWrong)

/-- 'callipertop.TopStims': WHATEVER THE INPUT: true; the input reads as it did. -/
def topStimsSpec : ChangeSpec := { name := "topStims", fn := fun _ => fun
  | [d1, d2, d3] => { results := [.lit (.bool true)], args := [d1, d2, d3] }
  | _ => none }
def topStimsRow : OpenClaim := { program := "ytidekbijkknlmaa", sum := "0d6167c9975dc573dadf30de87e69e80da374aec1bf621194cfdbb3c32a8634a", func := "calliper/callipertop.TopStims", spec := "topStims", unfollowed := true, recurses := true, apart := false }
def TopStimsSaid : Prop := topStimsRow.holds Try.pinned (OpenSpec.ofChange topStimsSpec)

/-- ITS FALSE NEIGHBOUR: 'it returns false'. Refute it at one input. -/
def topStimsWrong : ChangeSpec := { name := "topStims", fn := fun _ => fun
  | [d1, d2, d3] => { results := [.lit (.bool false)], args := [d1, d2, d3] }
  | _ => none }
def TopStimsWrongFalsely : Prop := topStimsRow.holds Try.pinned (OpenSpec.ofChange topStimsWrong)

/-- 'calliperlaw19.GatherOne': WHATEVER THE INPUT: true; the input reads as it did. -/
def gatherOneSpec : ChangeSpec := { name := "gatherOne", fn := fun _ => fun
  | [d1, d2, d3, d4] => { results := [.lit (.bool true)], args := [d1, d2, d3, d4] }
  | _ => none }
def gatherOneRow : OpenClaim := { program := "ytidekbijkknlmaa", sum := "0d6167c9975dc573dadf30de87e69e80da374aec1bf621194cfdbb3c32a8634a", func := "calliper/calliperlaw19.GatherOne", spec := "gatherOne", apart := false }
def GatherOneSaid : Prop := gatherOneRow.holds Try.pinned (OpenSpec.ofChange gatherOneSpec)

/-- ITS FALSE NEIGHBOUR: 'it returns false'. Refute it at one input. -/
def gatherOneWrong : ChangeSpec := { name := "gatherOne", fn := fun _ => fun
  | [d1, d2, d3, d4] => { results := [.lit (.bool false)], args := [d1, d2, d3, d4] }
  | _ => none }
def GatherOneWrongFalsely : Prop := gatherOneRow.holds Try.pinned (OpenSpec.ofChange gatherOneWrong)

/-- 'calliperlaw19.GatherOwn': WHATEVER THE INPUT: true; the input reads as it did. -/
def gatherOwnSpec : ChangeSpec := { name := "gatherOwn", fn := fun _ => fun
  | [d1, d2] => { results := [.lit (.bool true)], args := [d1, d2] }
  | _ => none }
def gatherOwnRow : OpenClaim := { program := "ytidekbijkknlmaa", sum := "0d6167c9975dc573dadf30de87e69e80da374aec1bf621194cfdbb3c32a8634a", func := "calliper/calliperlaw19.GatherOwn", spec := "gatherOwn", apart := false }
def GatherOwnSaid : Prop := gatherOwnRow.holds Try.pinned (OpenSpec.ofChange gatherOwnSpec)

/-- ITS FALSE NEIGHBOUR: 'it returns false'. Refute it at one input. -/
def gatherOwnWrong : ChangeSpec := { name := "gatherOwn", fn := fun _ => fun
  | [d1, d2] => { results := [.lit (.bool false)], args := [d1, d2] }
  | _ => none }
def GatherOwnWrongFalsely : Prop := gatherOwnRow.holds Try.pinned (OpenSpec.ofChange gatherOwnWrong)

/- THE SECOND FORM. 'bulk': how many values and letters a reading holds, each counted each time it is reached (what is shared counts as often as it is met; a slice's spare places count too). A statement '..UptoSaid' is the law's where the arguments, and the package variables that the reading takes, are together of bulk at most 1048576: NARROWER than '..Said'. Prove '..Said' where nothing that the law and all that it calls make is longer than what came in: it says more and counts as full. Else prove '..UptoSaid'. A law counts once. -/
mutual
def uptoBulk {H : Type} : DataW H → Nat
  | .lit (.string bytes) => bytes.length + 1
  | .lit _ => 1
  | .nil => 1
  | .ptr d => uptoBulk d + 1
  | .slice elems spare => uptoBulkAll elems + uptoBulkAll spare + 1
  | .agg parts => uptoBulkAll parts + 1
  | .iface _ d => uptoBulk d + 1
  | .map entries => uptoBulkEntries entries + 1
  | .held _ => 1
def uptoBulkAll {H : Type} : List (DataW H) → Nat
  | [] => 0
  | d :: r => uptoBulk d + uptoBulkAll r
def uptoBulkEntries {H : Type} : List (Lit × DataW H) → Nat
  | [] => 0
  | x :: r => uptoBulkEntry x + uptoBulkEntries r
def uptoBulkEntry {H : Type} : Lit × DataW H → Nat
  | (.string bytes, d) => bytes.length + uptoBulk d + 1
  | (_, d) => uptoBulk d + 1
 end
def uptoSmall : (H : Type) → List (DataW H) → Bool := fun _ ds => decide (uptoBulkAll ds ≤ 1048576)
def OpenSpec.upto (s : _root_.Go.ChangeSpec) : _root_.Go.OpenSpec := { _root_.Go.OpenSpec.ofChange s with cond := some uptoSmall }

/-- 'calliperlaw19.GatherPlays', WHERE WHAT IT READS IS OF BULK AT MOST 1048576: true; the input reads as it did. -/
def gatherPlaysUptoRow : OpenClaim := { program := "ytidekbijkknlmaa", sum := "0d6167c9975dc573dadf30de87e69e80da374aec1bf621194cfdbb3c32a8634a", func := "calliper/calliperlaw19.GatherPlays", spec := "gatherPlays", apart := false, narrowed := true }
def GatherPlaysUptoSaid : Prop := gatherPlaysUptoRow.holds Try.pinned (OpenSpec.upto gatherPlaysSpec)

/-- 'calliperlaw19.GatherWhole', WHERE WHAT IT READS IS OF BULK AT MOST 1048576: true; the input reads as it did. -/
def gatherWholeUptoRow : OpenClaim := { program := "ytidekbijkknlmaa", sum := "0d6167c9975dc573dadf30de87e69e80da374aec1bf621194cfdbb3c32a8634a", func := "calliper/calliperlaw19.GatherWhole", spec := "gatherWhole", unfollowed := true, recurses := true, apart := false, narrowed := true }
def GatherWholeUptoSaid : Prop := gatherWholeUptoRow.holds Try.pinned (OpenSpec.upto gatherWholeSpec)

/-- 'callipertop.TopWire', WHERE WHAT IT READS IS OF BULK AT MOST 1048576: true; the input reads as it did. -/
def topWireUptoRow : OpenClaim := { program := "ytidekbijkknlmaa", sum := "0d6167c9975dc573dadf30de87e69e80da374aec1bf621194cfdbb3c32a8634a", func := "calliper/callipertop.TopWire", spec := "topWire", inPlace := ["slices.overlaps[calliper/api.Frame]"], unfollowed := true, recurses := true, apart := false, narrowed := true }
def TopWireUptoSaid : Prop := topWireUptoRow.holds Try.pinned (OpenSpec.upto topWireSpec)

/-- 'calliperlaw19.GatherMissing', WHERE WHAT IT READS IS OF BULK AT MOST 1048576: true; the input reads as it did. -/
def gatherMissingUptoRow : OpenClaim := { program := "ytidekbijkknlmaa", sum := "0d6167c9975dc573dadf30de87e69e80da374aec1bf621194cfdbb3c32a8634a", func := "calliper/calliperlaw19.GatherMissing", spec := "gatherMissing", apart := false, narrowed := true }
def GatherMissingUptoSaid : Prop := gatherMissingUptoRow.holds Try.pinned (OpenSpec.upto gatherMissingSpec)

/-- 'calliperlaw19.GatherNone', WHERE WHAT IT READS IS OF BULK AT MOST 1048576: true; the input reads as it did. -/
def gatherNoneUptoRow : OpenClaim := { program := "ytidekbijkknlmaa", sum := "0d6167c9975dc573dadf30de87e69e80da374aec1bf621194cfdbb3c32a8634a", func := "calliper/calliperlaw19.GatherNone", spec := "gatherNone", apart := false, narrowed := true }
def GatherNoneUptoSaid : Prop := gatherNoneUptoRow.holds Try.pinned (OpenSpec.upto gatherNoneSpec)

/-- 'callipertop.TopStims', WHERE WHAT IT READS IS OF BULK AT MOST 1048576: true; the input reads as it did. -/
def topStimsUptoRow : OpenClaim := { program := "ytidekbijkknlmaa", sum := "0d6167c9975dc573dadf30de87e69e80da374aec1bf621194cfdbb3c32a8634a", func := "calliper/callipertop.TopStims", spec := "topStims", unfollowed := true, recurses := true, apart := false, narrowed := true }
def TopStimsUptoSaid : Prop := topStimsUptoRow.holds Try.pinned (OpenSpec.upto topStimsSpec)

/-- 'calliperlaw19.GatherOne', WHERE WHAT IT READS IS OF BULK AT MOST 1048576: true; the input reads as it did. -/
def gatherOneUptoRow : OpenClaim := { program := "ytidekbijkknlmaa", sum := "0d6167c9975dc573dadf30de87e69e80da374aec1bf621194cfdbb3c32a8634a", func := "calliper/calliperlaw19.GatherOne", spec := "gatherOne", apart := false, narrowed := true }
def GatherOneUptoSaid : Prop := gatherOneUptoRow.holds Try.pinned (OpenSpec.upto gatherOneSpec)

/-- 'calliperlaw19.GatherOwn', WHERE WHAT IT READS IS OF BULK AT MOST 1048576: true; the input reads as it did. -/
def gatherOwnUptoRow : OpenClaim := { program := "ytidekbijkknlmaa", sum := "0d6167c9975dc573dadf30de87e69e80da374aec1bf621194cfdbb3c32a8634a", func := "calliper/calliperlaw19.GatherOwn", spec := "gatherOwn", apart := false, narrowed := true }
def GatherOwnUptoSaid : Prop := gatherOwnUptoRow.holds Try.pinned (OpenSpec.upto gatherOwnSpec)

end Rows
end Go.Proofs.Ytidekbijkknlmaa
