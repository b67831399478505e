/-
  No cell of these rows narrows 'for every input' (looked for: loops, veiled, ifaces, maps, wideKeys, modest, calm, conditions, laid).
  DERIVED. THE GIVEN ROWS OF THIS SEAT. 11 by the template 'for every input the law returns true; each argument reads behind the call as it read before'; 0 by the template 'total and deterministic' (their statements: YtkeekkdaielipaaTotals.lean).
  GIVEN WITH THE SEED: the statements are not yours to turn. If you find one false, say at which input.
  Laid BY PROGRAM, IN A SANDBOX (cutbox-rows.mjs): the forced cells as the released guide's own fill.sh prints them over the translation 1fd3ec757a30b222… (all of the seat's roots in one cut). By AI agents, Wed Nov 11 2026. No macro, syntax, notation, axiom, sorry.
-/
import Derived.Test.YtkeekkdaielipaaChecked
import GoSem.Claim
import GoSem.ClaimJoined
import GoSem.ClaimMapViews
import Derived.JoinedTies
import Derived.KernelRfl
namespace Go.Proofs.Ytkeekkdaielipaa
/- THE CELL 'sum', in the pinned program and in every row, IS THE sha256 OF THE DUMP (.gsa) THAT YtkeekkdaielipaaProg.lean LOADS. Nothing in Lean hashes anything: it is a label: what it is worth is what the hold of that sum in a sandbox is worth. -/
noncomputable def Try.pinned : Pinned := { name := "ytkeekkdaielipaa", sum := "1fd3ec757a30b222028274354140cb29c20581b235a5c0bbcda6e336c796f740", checked := Try.checked }
namespace Rows
def none {H : Type} : Left H := { results := [], args := [] }

/-- 'calliperlaw14.StimOthers': WHATEVER THE INPUT: true; the input reads as it did. -/
def stimOthersSpec : ChangeSpec := { name := "stimOthers", fn := fun _ => fun
  | [d1, d2] => { results := [.lit (.bool true)], args := [d1, d2] }
  | _ => none }
def stimOthersRow : OpenClaim := { program := "ytkeekkdaielipaa", sum := "1fd3ec757a30b222028274354140cb29c20581b235a5c0bbcda6e336c796f740", func := "calliper/calliperlaw14.StimOthers", spec := "stimOthers", apart := false }
def StimOthersSaid : Prop := stimOthersRow.holds Try.pinned (OpenSpec.ofChange stimOthersSpec)

/-- ITS FALSE NEIGHBOUR: 'it returns false'. Refute it at one input. -/
def stimOthersWrong : ChangeSpec := { name := "stimOthers", fn := fun _ => fun
  | [d1, d2] => { results := [.lit (.bool false)], args := [d1, d2] }
  | _ => none }
def StimOthersWrongFalsely : Prop := stimOthersRow.holds Try.pinned (OpenSpec.ofChange stimOthersWrong)

/-- 'calliperlaw14.StimNone': WHATEVER THE INPUT: true; the input reads as it did. -/
def stimNoneSpec : ChangeSpec := { name := "stimNone", fn := fun _ => fun
  | [d1, d2, d3, d4] => { results := [.lit (.bool true)], args := [d1, d2, d3, d4] }
  | _ => none }
def stimNoneRow : OpenClaim := { program := "ytkeekkdaielipaa", sum := "1fd3ec757a30b222028274354140cb29c20581b235a5c0bbcda6e336c796f740", func := "calliper/calliperlaw14.StimNone", spec := "stimNone", apart := false }
def StimNoneSaid : Prop := stimNoneRow.holds Try.pinned (OpenSpec.ofChange stimNoneSpec)

/-- ITS FALSE NEIGHBOUR: 'it returns false'. Refute it at one input. -/
def stimNoneWrong : ChangeSpec := { name := "stimNone", fn := fun _ => fun
  | [d1, d2, d3, d4] => { results := [.lit (.bool false)], args := [d1, d2, d3, d4] }
  | _ => none }
def StimNoneWrongFalsely : Prop := stimNoneRow.holds Try.pinned (OpenSpec.ofChange stimNoneWrong)

/-- 'calliperlaw14.StimAll': WHATEVER THE INPUT: true; the input reads as it did. -/
def stimAllSpec : ChangeSpec := { name := "stimAll", fn := fun _ => fun
  | [d1, d2, d3, d4] => { results := [.lit (.bool true)], args := [d1, d2, d3, d4] }
  | _ => none }
def stimAllRow : OpenClaim := { program := "ytkeekkdaielipaa", sum := "1fd3ec757a30b222028274354140cb29c20581b235a5c0bbcda6e336c796f740", func := "calliper/calliperlaw14.StimAll", spec := "stimAll", unfollowed := true, recurses := true, apart := false }
def StimAllSaid : Prop := stimAllRow.holds Try.pinned (OpenSpec.ofChange stimAllSpec)

/-- ITS FALSE NEIGHBOUR: 'it returns false'. Refute it at one input. -/
def stimAllWrong : ChangeSpec := { name := "stimAll", fn := fun _ => fun
  | [d1, d2, d3, d4] => { results := [.lit (.bool false)], args := [d1, d2, d3, d4] }
  | _ => none }
def StimAllWrongFalsely : Prop := stimAllRow.holds Try.pinned (OpenSpec.ofChange stimAllWrong)

/-- 'calliperlaw12.FireOwn': WHATEVER THE INPUT: true; the input reads as it did. -/
def fireOwnSpec : ChangeSpec := { name := "fireOwn", fn := fun _ => fun
  | [d1, d2, d3] => { results := [.lit (.bool true)], args := [d1, d2, d3] }
  | _ => none }
def fireOwnRow : OpenClaim := { program := "ytkeekkdaielipaa", sum := "1fd3ec757a30b222028274354140cb29c20581b235a5c0bbcda6e336c796f740", func := "calliper/calliperlaw12.FireOwn", spec := "fireOwn", unfollowed := true, recurses := true, apart := false }
def FireOwnSaid : Prop := fireOwnRow.holds Try.pinned (OpenSpec.ofChange fireOwnSpec)

/-- ITS FALSE NEIGHBOUR: 'it returns false'. Refute it at one input. -/
def fireOwnWrong : ChangeSpec := { name := "fireOwn", fn := fun _ => fun
  | [d1, d2, d3] => { results := [.lit (.bool false)], args := [d1, d2, d3] }
  | _ => none }
def FireOwnWrongFalsely : Prop := fireOwnRow.holds Try.pinned (OpenSpec.ofChange fireOwnWrong)

/-- 'calliperlaw14.StimPlays': WHATEVER THE INPUT: true; the input reads as it did. -/
def stimPlaysSpec : ChangeSpec := { name := "stimPlays", fn := fun _ => fun
  | [d1, d2, d3, d4] => { results := [.lit (.bool true)], args := [d1, d2, d3, d4] }
  | _ => none }
def stimPlaysRow : OpenClaim := { program := "ytkeekkdaielipaa", sum := "1fd3ec757a30b222028274354140cb29c20581b235a5c0bbcda6e336c796f740", func := "calliper/calliperlaw14.StimPlays", spec := "stimPlays", unfollowed := true, recurses := true, apart := false }
def StimPlaysSaid : Prop := stimPlaysRow.holds Try.pinned (OpenSpec.ofChange stimPlaysSpec)

/-- ITS FALSE NEIGHBOUR: 'it returns false'. Refute it at one input. -/
def stimPlaysWrong : ChangeSpec := { name := "stimPlays", fn := fun _ => fun
  | [d1, d2, d3, d4] => { results := [.lit (.bool false)], args := [d1, d2, d3, d4] }
  | _ => none }
def StimPlaysWrongFalsely : Prop := stimPlaysRow.holds Try.pinned (OpenSpec.ofChange stimPlaysWrong)

/-- 'calliperlaw12.FirePlays': WHATEVER THE INPUT: true; the input reads as it did. -/
def firePlaysSpec : ChangeSpec := { name := "firePlays", fn := fun _ => fun
  | [d1, d2] => { results := [.lit (.bool true)], args := [d1, d2] }
  | _ => none }
def firePlaysRow : OpenClaim := { program := "ytkeekkdaielipaa", sum := "1fd3ec757a30b222028274354140cb29c20581b235a5c0bbcda6e336c796f740", func := "calliper/calliperlaw12.FirePlays", spec := "firePlays", unfollowed := true, recurses := true, apart := false }
def FirePlaysSaid : Prop := firePlaysRow.holds Try.pinned (OpenSpec.ofChange firePlaysSpec)

/-- ITS FALSE NEIGHBOUR: 'it returns false'. Refute it at one input. -/
def firePlaysWrong : ChangeSpec := { name := "firePlays", fn := fun _ => fun
  | [d1, d2] => { results := [.lit (.bool false)], args := [d1, d2] }
  | _ => none }
def FirePlaysWrongFalsely : Prop := firePlaysRow.holds Try.pinned (OpenSpec.ofChange firePlaysWrong)

/-- 'calliperlaw12.FireCounts': WHATEVER THE INPUT: true; the input reads as it did. -/
def fireCountsSpec : ChangeSpec := { name := "fireCounts", fn := fun _ => fun
  | [d1, d2, d3, d4] => { results := [.lit (.bool true)], args := [d1, d2, d3, d4] }
  | _ => none }
def fireCountsRow : OpenClaim := { program := "ytkeekkdaielipaa", sum := "1fd3ec757a30b222028274354140cb29c20581b235a5c0bbcda6e336c796f740", func := "calliper/calliperlaw12.FireCounts", spec := "fireCounts", unfollowed := true, recurses := true, apart := false }
def FireCountsSaid : Prop := fireCountsRow.holds Try.pinned (OpenSpec.ofChange fireCountsSpec)

/-- ITS FALSE NEIGHBOUR: 'it returns false'. Refute it at one input. -/
def fireCountsWrong : ChangeSpec := { name := "fireCounts", fn := fun _ => fun
  | [d1, d2, d3, d4] => { results := [.lit (.bool false)], args := [d1, d2, d3, d4] }
  | _ => none }
def FireCountsWrongFalsely : Prop := fireCountsRow.holds Try.pinned (OpenSpec.ofChange fireCountsWrong)

/-- 'calliperlaw12.FireOrder': WHATEVER THE INPUT: true; the input reads as it did. -/
def fireOrderSpec : ChangeSpec := { name := "fireOrder", fn := fun _ => fun
  | [d1, d2] => { results := [.lit (.bool true)], args := [d1, d2] }
  | _ => none }
def fireOrderRow : OpenClaim := { program := "ytkeekkdaielipaa", sum := "1fd3ec757a30b222028274354140cb29c20581b235a5c0bbcda6e336c796f740", func := "calliper/calliperlaw12.FireOrder", spec := "fireOrder", unfollowed := true, recurses := true, apart := false }
def FireOrderSaid : Prop := fireOrderRow.holds Try.pinned (OpenSpec.ofChange fireOrderSpec)

/-- ITS FALSE NEIGHBOUR: 'it returns false'. Refute it at one input. -/
def fireOrderWrong : ChangeSpec := { name := "fireOrder", fn := fun _ => fun
  | [d1, d2] => { results := [.lit (.bool false)], args := [d1, d2] }
  | _ => none }
def FireOrderWrongFalsely : Prop := fireOrderRow.holds Try.pinned (OpenSpec.ofChange fireOrderWrong)

/-- 'calliperlaw12.FireSamples': WHATEVER THE INPUT: true; the input reads as it did. -/
def fireSamplesSpec : ChangeSpec := { name := "fireSamples", fn := fun _ => fun
  | [d1, d2, d3] => { results := [.lit (.bool true)], args := [d1, d2, d3] }
  | _ => none }
def fireSamplesRow : OpenClaim := { program := "ytkeekkdaielipaa", sum := "1fd3ec757a30b222028274354140cb29c20581b235a5c0bbcda6e336c796f740", func := "calliper/calliperlaw12.FireSamples", spec := "fireSamples", unfollowed := true, recurses := true, apart := false }
def FireSamplesSaid : Prop := fireSamplesRow.holds Try.pinned (OpenSpec.ofChange fireSamplesSpec)

/-- ITS FALSE NEIGHBOUR: 'it returns false'. Refute it at one input. -/
def fireSamplesWrong : ChangeSpec := { name := "fireSamples", fn := fun _ => fun
  | [d1, d2, d3] => { results := [.lit (.bool false)], args := [d1, d2, d3] }
  | _ => none }
def FireSamplesWrongFalsely : Prop := fireSamplesRow.holds Try.pinned (OpenSpec.ofChange fireSamplesWrong)

/-- 'calliperlaw12.FireAtOnce': WHATEVER THE INPUT: true; the input reads as it did. -/
def fireAtOnceSpec : ChangeSpec := { name := "fireAtOnce", fn := fun _ => fun
  | [d1, d2, d3] => { results := [.lit (.bool true)], args := [d1, d2, d3] }
  | _ => none }
def fireAtOnceRow : OpenClaim := { program := "ytkeekkdaielipaa", sum := "1fd3ec757a30b222028274354140cb29c20581b235a5c0bbcda6e336c796f740", func := "calliper/calliperlaw12.FireAtOnce", spec := "fireAtOnce", unfollowed := true, recurses := true, apart := false }
def FireAtOnceSaid : Prop := fireAtOnceRow.holds Try.pinned (OpenSpec.ofChange fireAtOnceSpec)

/-- ITS FALSE NEIGHBOUR: 'it returns false'. Refute it at one input. -/
def fireAtOnceWrong : ChangeSpec := { name := "fireAtOnce", fn := fun _ => fun
  | [d1, d2, d3] => { results := [.lit (.bool false)], args := [d1, d2, d3] }
  | _ => none }
def FireAtOnceWrongFalsely : Prop := fireAtOnceRow.holds Try.pinned (OpenSpec.ofChange fireAtOnceWrong)

/-- 'calliperlaw12.FirePages': WHATEVER THE INPUT: true; the input reads as it did. -/
def firePagesSpec : ChangeSpec := { name := "firePages", fn := fun _ => fun
  | [d1, d2, d3, d4, d5] => { results := [.lit (.bool true)], args := [d1, d2, d3, d4, d5] }
  | _ => none }
def firePagesRow : OpenClaim := { program := "ytkeekkdaielipaa", sum := "1fd3ec757a30b222028274354140cb29c20581b235a5c0bbcda6e336c796f740", func := "calliper/calliperlaw12.FirePages", spec := "firePages", unfollowed := true, recurses := true, apart := false }
def FirePagesSaid : Prop := firePagesRow.holds Try.pinned (OpenSpec.ofChange firePagesSpec)

/-- ITS FALSE NEIGHBOUR: 'it returns false'. Refute it at one input. -/
def firePagesWrong : ChangeSpec := { name := "firePages", fn := fun _ => fun
  | [d1, d2, d3, d4, d5] => { results := [.lit (.bool false)], args := [d1, d2, d3, d4, d5] }
  | _ => none }
def FirePagesWrongFalsely : Prop := firePagesRow.holds Try.pinned (OpenSpec.ofChange firePagesWrong)

/- THE SECOND FORM. 'bulk': how many values and letters a reading holds, each counted each time it is reached (what is shared counts as often as it is met; a slice's spare places count too). A statement '..UptoSaid' is the law's where the arguments, and the package variables that the reading takes, are together of bulk at most 1048576: NARROWER than '..Said'. Prove '..Said' where nothing that the law and all that it calls make is longer than what came in: it says more and counts as full. Else prove '..UptoSaid'. A law counts once. -/
mutual
def uptoBulk {H : Type} : DataW H → Nat
  | .lit (.string bytes) => bytes.length + 1
  | .lit _ => 1
  | .nil => 1
  | .ptr d => uptoBulk d + 1
  | .slice elems spare => uptoBulkAll elems + uptoBulkAll spare + 1
  | .agg parts => uptoBulkAll parts + 1
  | .iface _ d => uptoBulk d + 1
  | .map entries => uptoBulkEntries entries + 1
  | .held _ => 1
def uptoBulkAll {H : Type} : List (DataW H) → Nat
  | [] => 0
  | d :: r => uptoBulk d + uptoBulkAll r
def uptoBulkEntries {H : Type} : List (Lit × DataW H) → Nat
  | [] => 0
  | x :: r => uptoBulkEntry x + uptoBulkEntries r
def uptoBulkEntry {H : Type} : Lit × DataW H → Nat
  | (.string bytes, d) => bytes.length + uptoBulk d + 1
  | (_, d) => uptoBulk d + 1
 end
def uptoSmall : (H : Type) → List (DataW H) → Bool := fun _ ds => decide (uptoBulkAll ds ≤ 1048576)
def OpenSpec.upto (s : _root_.Go.ChangeSpec) : _root_.Go.OpenSpec := { _root_.Go.OpenSpec.ofChange s with cond := some uptoSmall }

/-- 'calliperlaw14.StimOthers', WHERE WHAT IT READS IS OF BULK AT MOST 1048576: true; the input reads as it did. -/
def stimOthersUptoRow : OpenClaim := { program := "ytkeekkdaielipaa", sum := "1fd3ec757a30b222028274354140cb29c20581b235a5c0bbcda6e336c796f740", func := "calliper/calliperlaw14.StimOthers", spec := "stimOthers", apart := false, narrowed := true }
def StimOthersUptoSaid : Prop := stimOthersUptoRow.holds Try.pinned (OpenSpec.upto stimOthersSpec)

/-- 'calliperlaw14.StimNone', WHERE WHAT IT READS IS OF BULK AT MOST 1048576: true; the input reads as it did. -/
def stimNoneUptoRow : OpenClaim := { program := "ytkeekkdaielipaa", sum := "1fd3ec757a30b222028274354140cb29c20581b235a5c0bbcda6e336c796f740", func := "calliper/calliperlaw14.StimNone", spec := "stimNone", apart := false, narrowed := true }
def StimNoneUptoSaid : Prop := stimNoneUptoRow.holds Try.pinned (OpenSpec.upto stimNoneSpec)

/-- 'calliperlaw14.StimAll', WHERE WHAT IT READS IS OF BULK AT MOST 1048576: true; the input reads as it did. -/
def stimAllUptoRow : OpenClaim := { program := "ytkeekkdaielipaa", sum := "1fd3ec757a30b222028274354140cb29c20581b235a5c0bbcda6e336c796f740", func := "calliper/calliperlaw14.StimAll", spec := "stimAll", unfollowed := true, recurses := true, apart := false, narrowed := true }
def StimAllUptoSaid : Prop := stimAllUptoRow.holds Try.pinned (OpenSpec.upto stimAllSpec)

/-- 'calliperlaw12.FireOwn', WHERE WHAT IT READS IS OF BULK AT MOST 1048576: true; the input reads as it did. -/
def fireOwnUptoRow : OpenClaim := { program := "ytkeekkdaielipaa", sum := "1fd3ec757a30b222028274354140cb29c20581b235a5c0bbcda6e336c796f740", func := "calliper/calliperlaw12.FireOwn", spec := "fireOwn", unfollowed := true, recurses := true, apart := false, narrowed := true }
def FireOwnUptoSaid : Prop := fireOwnUptoRow.holds Try.pinned (OpenSpec.upto fireOwnSpec)

/-- 'calliperlaw14.StimPlays', WHERE WHAT IT READS IS OF BULK AT MOST 1048576: true; the input reads as it did. -/
def stimPlaysUptoRow : OpenClaim := { program := "ytkeekkdaielipaa", sum := "1fd3ec757a30b222028274354140cb29c20581b235a5c0bbcda6e336c796f740", func := "calliper/calliperlaw14.StimPlays", spec := "stimPlays", unfollowed := true, recurses := true, apart := false, narrowed := true }
def StimPlaysUptoSaid : Prop := stimPlaysUptoRow.holds Try.pinned (OpenSpec.upto stimPlaysSpec)

/-- 'calliperlaw12.FirePlays', WHERE WHAT IT READS IS OF BULK AT MOST 1048576: true; the input reads as it did. -/
def firePlaysUptoRow : OpenClaim := { program := "ytkeekkdaielipaa", sum := "1fd3ec757a30b222028274354140cb29c20581b235a5c0bbcda6e336c796f740", func := "calliper/calliperlaw12.FirePlays", spec := "firePlays", unfollowed := true, recurses := true, apart := false, narrowed := true }
def FirePlaysUptoSaid : Prop := firePlaysUptoRow.holds Try.pinned (OpenSpec.upto firePlaysSpec)

/-- 'calliperlaw12.FireCounts', WHERE WHAT IT READS IS OF BULK AT MOST 1048576: true; the input reads as it did. -/
def fireCountsUptoRow : OpenClaim := { program := "ytkeekkdaielipaa", sum := "1fd3ec757a30b222028274354140cb29c20581b235a5c0bbcda6e336c796f740", func := "calliper/calliperlaw12.FireCounts", spec := "fireCounts", unfollowed := true, recurses := true, apart := false, narrowed := true }
def FireCountsUptoSaid : Prop := fireCountsUptoRow.holds Try.pinned (OpenSpec.upto fireCountsSpec)

/-- 'calliperlaw12.FireOrder', WHERE WHAT IT READS IS OF BULK AT MOST 1048576: true; the input reads as it did. -/
def fireOrderUptoRow : OpenClaim := { program := "ytkeekkdaielipaa", sum := "1fd3ec757a30b222028274354140cb29c20581b235a5c0bbcda6e336c796f740", func := "calliper/calliperlaw12.FireOrder", spec := "fireOrder", unfollowed := true, recurses := true, apart := false, narrowed := true }
def FireOrderUptoSaid : Prop := fireOrderUptoRow.holds Try.pinned (OpenSpec.upto fireOrderSpec)

/-- 'calliperlaw12.FireSamples', WHERE WHAT IT READS IS OF BULK AT MOST 1048576: true; the input reads as it did. -/
def fireSamplesUptoRow : OpenClaim := { program := "ytkeekkdaielipaa", sum := "1fd3ec757a30b222028274354140cb29c20581b235a5c0bbcda6e336c796f740", func := "calliper/calliperlaw12.FireSamples", spec := "fireSamples", unfollowed := true, recurses := true, apart := false, narrowed := true }
def FireSamplesUptoSaid : Prop := fireSamplesUptoRow.holds Try.pinned (OpenSpec.upto fireSamplesSpec)

/-- 'calliperlaw12.FireAtOnce', WHERE WHAT IT READS IS OF BULK AT MOST 1048576: true; the input reads as it did. -/
def fireAtOnceUptoRow : OpenClaim := { program := "ytkeekkdaielipaa", sum := "1fd3ec757a30b222028274354140cb29c20581b235a5c0bbcda6e336c796f740", func := "calliper/calliperlaw12.FireAtOnce", spec := "fireAtOnce", unfollowed := true, recurses := true, apart := false, narrowed := true }
def FireAtOnceUptoSaid : Prop := fireAtOnceUptoRow.holds Try.pinned (OpenSpec.upto fireAtOnceSpec)

/-- 'calliperlaw12.FirePages', WHERE WHAT IT READS IS OF BULK AT MOST 1048576: true; the input reads as it did. -/
def firePagesUptoRow : OpenClaim := { program := "ytkeekkdaielipaa", sum := "1fd3ec757a30b222028274354140cb29c20581b235a5c0bbcda6e336c796f740", func := "calliper/calliperlaw12.FirePages", spec := "firePages", unfollowed := true, recurses := true, apart := false, narrowed := true }
def FirePagesUptoSaid : Prop := firePagesUptoRow.holds Try.pinned (OpenSpec.upto firePagesSpec)

end Rows
end Go.Proofs.Ytkeekkdaielipaa
