/-
  No cell of these rows narrows 'for every input' (looked for: loops, veiled, ifaces, maps, wideKeys, modest, calm, conditions, laid).
  DERIVED. THE GIVEN ROWS OF THIS SEAT. 7 by the template 'for every input the law returns true; each argument reads behind the call as it read before'; 0 by the template 'total and deterministic' (their statements: YtofgfkcmdldcmaaTotals.lean).
  GIVEN WITH THE SEED: the statements are not yours to turn. If you find one false, say at which input.
  Laid BY PROGRAM, IN A SANDBOX (cutbox-rows.mjs): the forced cells as the released guide's own fill.sh prints them over the translation 2e894a86e86efe6e… (all of the seat's roots in one cut). By AI agents, Wed Nov 11 2026. No macro, syntax, notation, axiom, sorry.
-/
import Derived.Test.YtofgfkcmdldcmaaChecked
import GoSem.Claim
import GoSem.ClaimJoined
import GoSem.ClaimMapViews
import Derived.JoinedTies
import Derived.KernelRfl
namespace Go.Proofs.Ytofgfkcmdldcmaa
/- THE CELL 'sum', in the pinned program and in every row, IS THE sha256 OF THE DUMP (.gsa) THAT YtofgfkcmdldcmaaProg.lean LOADS. Nothing in Lean hashes anything: it is a label: what it is worth is what the hold of that sum in a sandbox is worth. -/
noncomputable def Try.pinned : Pinned := { name := "ytofgfkcmdldcmaa", sum := "2e894a86e86efe6e714b999c85097a06c5e761ac2d3bebd1a39762461c1dd4f1", checked := Try.checked }
namespace Rows
def none {H : Type} : Left H := { results := [], args := [] }

/-- 'portmanteaulaw06.PolyTags': WHATEVER THE INPUT: true; the input reads as it did. -/
def polyTagsSpec : ChangeSpec := { name := "polyTags", fn := fun _ => fun
  | [d1, d2] => { results := [.lit (.bool true)], args := [d1, d2] }
  | _ => none }
def polyTagsRow : OpenClaim := { program := "ytofgfkcmdldcmaa", sum := "2e894a86e86efe6e714b999c85097a06c5e761ac2d3bebd1a39762461c1dd4f1", func := "portmanteau/portmanteaulaw06.PolyTags", spec := "polyTags", inPlace := ["math/bits.Add64", "math/bits.Sub64"], apart := false }
def PolyTagsSaid : Prop := polyTagsRow.holds Try.pinned (OpenSpec.ofChange polyTagsSpec)

/-- ITS FALSE NEIGHBOUR: 'it returns false'. Refute it at one input. -/
def polyTagsWrong : ChangeSpec := { name := "polyTags", fn := fun _ => fun
  | [d1, d2] => { results := [.lit (.bool false)], args := [d1, d2] }
  | _ => none }
def PolyTagsWrongFalsely : Prop := polyTagsRow.holds Try.pinned (OpenSpec.ofChange polyTagsWrong)

/-- 'portmanteaulaw06.PolySecond': WHATEVER THE INPUT: true; the input reads as it did. -/
def polySecondSpec : ChangeSpec := { name := "polySecond", fn := fun _ => fun
  | [d1, d2] => { results := [.lit (.bool true)], args := [d1, d2] }
  | _ => none }
def polySecondRow : OpenClaim := { program := "ytofgfkcmdldcmaa", sum := "2e894a86e86efe6e714b999c85097a06c5e761ac2d3bebd1a39762461c1dd4f1", func := "portmanteau/portmanteaulaw06.PolySecond", spec := "polySecond", inPlace := ["math/bits.Add64", "math/bits.Sub64"], apart := false }
def PolySecondSaid : Prop := polySecondRow.holds Try.pinned (OpenSpec.ofChange polySecondSpec)

/-- ITS FALSE NEIGHBOUR: 'it returns false'. Refute it at one input. -/
def polySecondWrong : ChangeSpec := { name := "polySecond", fn := fun _ => fun
  | [d1, d2] => { results := [.lit (.bool false)], args := [d1, d2] }
  | _ => none }
def PolySecondWrongFalsely : Prop := polySecondRow.holds Try.pinned (OpenSpec.ofChange polySecondWrong)

/-- 'portmanteaulaw06.PolyNothing': WHATEVER THE INPUT: true; the input reads as it did. -/
def polyNothingSpec : ChangeSpec := { name := "polyNothing", fn := fun _ => fun
  | [d1, d2] => { results := [.lit (.bool true)], args := [d1, d2] }
  | _ => none }
def polyNothingRow : OpenClaim := { program := "ytofgfkcmdldcmaa", sum := "2e894a86e86efe6e714b999c85097a06c5e761ac2d3bebd1a39762461c1dd4f1", func := "portmanteau/portmanteaulaw06.PolyNothing", spec := "polyNothing", inPlace := ["math/bits.Add64", "math/bits.Sub64"], apart := false }
def PolyNothingSaid : Prop := polyNothingRow.holds Try.pinned (OpenSpec.ofChange polyNothingSpec)

/-- ITS FALSE NEIGHBOUR: 'it returns false'. Refute it at one input. -/
def polyNothingWrong : ChangeSpec := { name := "polyNothing", fn := fun _ => fun
  | [d1, d2] => { results := [.lit (.bool false)], args := [d1, d2] }
  | _ => none }
def PolyNothingWrongFalsely : Prop := polyNothingRow.holds Try.pinned (OpenSpec.ofChange polyNothingWrong)

/-- 'portmanteaulaw06.PolyOne': WHATEVER THE INPUT: true; the input reads as it did. -/
def polyOneSpec : ChangeSpec := { name := "polyOne", fn := fun _ => fun
  | [d] => { results := [.lit (.bool true)], args := [d] }
  | _ => none }
def polyOneRow : OpenClaim := { program := "ytofgfkcmdldcmaa", sum := "2e894a86e86efe6e714b999c85097a06c5e761ac2d3bebd1a39762461c1dd4f1", func := "portmanteau/portmanteaulaw06.PolyOne", spec := "polyOne", inPlace := ["math/bits.Add64", "math/bits.Sub64"], apart := false }
def PolyOneSaid : Prop := polyOneRow.holds Try.pinned (OpenSpec.ofChange polyOneSpec)

/-- ITS FALSE NEIGHBOUR: 'it returns false'. Refute it at one input. -/
def polyOneWrong : ChangeSpec := { name := "polyOne", fn := fun _ => fun
  | [d] => { results := [.lit (.bool false)], args := [d] }
  | _ => none }
def PolyOneWrongFalsely : Prop := polyOneRow.holds Try.pinned (OpenSpec.ofChange polyOneWrong)

/-- 'portmanteaulaw06.PolyTimes': WHATEVER THE INPUT: true; the input reads as it did. -/
def polyTimesSpec : ChangeSpec := { name := "polyTimes", fn := fun _ => fun
  | [d1, d2] => { results := [.lit (.bool true)], args := [d1, d2] }
  | _ => none }
def polyTimesRow : OpenClaim := { program := "ytofgfkcmdldcmaa", sum := "2e894a86e86efe6e714b999c85097a06c5e761ac2d3bebd1a39762461c1dd4f1", func := "portmanteau/portmanteaulaw06.PolyTimes", spec := "polyTimes", inPlace := ["math/bits.Add64", "math/bits.Sub64"], apart := false }
def PolyTimesSaid : Prop := polyTimesRow.holds Try.pinned (OpenSpec.ofChange polyTimesSpec)

/-- ITS FALSE NEIGHBOUR: 'it returns false'. Refute it at one input. -/
def polyTimesWrong : ChangeSpec := { name := "polyTimes", fn := fun _ => fun
  | [d1, d2] => { results := [.lit (.bool false)], args := [d1, d2] }
  | _ => none }
def PolyTimesWrongFalsely : Prop := polyTimesRow.holds Try.pinned (OpenSpec.ofChange polyTimesWrong)

/-- 'portmanteaulaw06.PolyEdge': WHATEVER THE INPUT: true; the input reads as it did. -/
def polyEdgeSpec : ChangeSpec := { name := "polyEdge", fn := fun _ => fun
  | [d1, d2] => { results := [.lit (.bool true)], args := [d1, d2] }
  | _ => none }
def polyEdgeRow : OpenClaim := { program := "ytofgfkcmdldcmaa", sum := "2e894a86e86efe6e714b999c85097a06c5e761ac2d3bebd1a39762461c1dd4f1", func := "portmanteau/portmanteaulaw06.PolyEdge", spec := "polyEdge", inPlace := ["math/bits.Add64", "math/bits.Sub64"], apart := false }
def PolyEdgeSaid : Prop := polyEdgeRow.holds Try.pinned (OpenSpec.ofChange polyEdgeSpec)

/-- ITS FALSE NEIGHBOUR: 'it returns false'. Refute it at one input. -/
def polyEdgeWrong : ChangeSpec := { name := "polyEdge", fn := fun _ => fun
  | [d1, d2] => { results := [.lit (.bool false)], args := [d1, d2] }
  | _ => none }
def PolyEdgeWrongFalsely : Prop := polyEdgeRow.holds Try.pinned (OpenSpec.ofChange polyEdgeWrong)

/-- 'portmanteaulaw06.PolyClears': WHATEVER THE INPUT: true; the input reads as it did. -/
def polyClearsSpec : ChangeSpec := { name := "polyClears", fn := fun _ => fun
  | [d1, d2, d3] => { results := [.lit (.bool true)], args := [d1, d2, d3] }
  | _ => none }
def polyClearsRow : OpenClaim := { program := "ytofgfkcmdldcmaa", sum := "2e894a86e86efe6e714b999c85097a06c5e761ac2d3bebd1a39762461c1dd4f1", func := "portmanteau/portmanteaulaw06.PolyClears", spec := "polyClears", inPlace := ["math/bits.Add64", "math/bits.Sub64"], apart := false }
def PolyClearsSaid : Prop := polyClearsRow.holds Try.pinned (OpenSpec.ofChange polyClearsSpec)

/-- ITS FALSE NEIGHBOUR: 'it returns false'. Refute it at one input. -/
def polyClearsWrong : ChangeSpec := { name := "polyClears", fn := fun _ => fun
  | [d1, d2, d3] => { results := [.lit (.bool false)], args := [d1, d2, d3] }
  | _ => none }
def PolyClearsWrongFalsely : Prop := polyClearsRow.holds Try.pinned (OpenSpec.ofChange polyClearsWrong)

/- THE SECOND FORM. 'bulk': how many values and letters a reading holds, each counted each time it is reached (what is shared counts as often as it is met; a slice's spare places count too). A statement '..UptoSaid' is the law's where the arguments, and the package variables that the reading takes, are together of bulk at most 1048576: NARROWER than '..Said'. Prove '..Said' where nothing that the law and all that it calls make is longer than what came in: it says more and counts as full. Else prove '..UptoSaid'. A law counts once. -/
mutual
def uptoBulk {H : Type} : DataW H → Nat
  | .lit (.string bytes) => bytes.length + 1
  | .lit _ => 1
  | .nil => 1
  | .ptr d => uptoBulk d + 1
  | .slice elems spare => uptoBulkAll elems + uptoBulkAll spare + 1
  | .agg parts => uptoBulkAll parts + 1
  | .iface _ d => uptoBulk d + 1
  | .map entries => uptoBulkEntries entries + 1
  | .held _ => 1
def uptoBulkAll {H : Type} : List (DataW H) → Nat
  | [] => 0
  | d :: r => uptoBulk d + uptoBulkAll r
def uptoBulkEntries {H : Type} : List (Lit × DataW H) → Nat
  | [] => 0
  | x :: r => uptoBulkEntry x + uptoBulkEntries r
def uptoBulkEntry {H : Type} : Lit × DataW H → Nat
  | (.string bytes, d) => bytes.length + uptoBulk d + 1
  | (_, d) => uptoBulk d + 1
 end
def uptoSmall : (H : Type) → List (DataW H) → Bool := fun _ ds => decide (uptoBulkAll ds ≤ 1048576)
def OpenSpec.upto (s : _root_.Go.ChangeSpec) : _root_.Go.OpenSpec := { _root_.Go.OpenSpec.ofChange s with cond := some uptoSmall }

/-- 'portmanteaulaw06.PolyTags', WHERE WHAT IT READS IS OF BULK AT MOST 1048576: true; the input reads as it did. -/
def polyTagsUptoRow : OpenClaim := { program := "ytofgfkcmdldcmaa", sum := "2e894a86e86efe6e714b999c85097a06c5e761ac2d3bebd1a39762461c1dd4f1", func := "portmanteau/portmanteaulaw06.PolyTags", spec := "polyTags", inPlace := ["math/bits.Add64", "math/bits.Sub64"], apart := false, narrowed := true }
def PolyTagsUptoSaid : Prop := polyTagsUptoRow.holds Try.pinned (OpenSpec.upto polyTagsSpec)

/-- 'portmanteaulaw06.PolySecond', WHERE WHAT IT READS IS OF BULK AT MOST 1048576: true; the input reads as it did. -/
def polySecondUptoRow : OpenClaim := { program := "ytofgfkcmdldcmaa", sum := "2e894a86e86efe6e714b999c85097a06c5e761ac2d3bebd1a39762461c1dd4f1", func := "portmanteau/portmanteaulaw06.PolySecond", spec := "polySecond", inPlace := ["math/bits.Add64", "math/bits.Sub64"], apart := false, narrowed := true }
def PolySecondUptoSaid : Prop := polySecondUptoRow.holds Try.pinned (OpenSpec.upto polySecondSpec)

/-- 'portmanteaulaw06.PolyNothing', WHERE WHAT IT READS IS OF BULK AT MOST 1048576: true; the input reads as it did. -/
def polyNothingUptoRow : OpenClaim := { program := "ytofgfkcmdldcmaa", sum := "2e894a86e86efe6e714b999c85097a06c5e761ac2d3bebd1a39762461c1dd4f1", func := "portmanteau/portmanteaulaw06.PolyNothing", spec := "polyNothing", inPlace := ["math/bits.Add64", "math/bits.Sub64"], apart := false, narrowed := true }
def PolyNothingUptoSaid : Prop := polyNothingUptoRow.holds Try.pinned (OpenSpec.upto polyNothingSpec)

/-- 'portmanteaulaw06.PolyOne', WHERE WHAT IT READS IS OF BULK AT MOST 1048576: true; the input reads as it did. -/
def polyOneUptoRow : OpenClaim := { program := "ytofgfkcmdldcmaa", sum := "2e894a86e86efe6e714b999c85097a06c5e761ac2d3bebd1a39762461c1dd4f1", func := "portmanteau/portmanteaulaw06.PolyOne", spec := "polyOne", inPlace := ["math/bits.Add64", "math/bits.Sub64"], apart := false, narrowed := true }
def PolyOneUptoSaid : Prop := polyOneUptoRow.holds Try.pinned (OpenSpec.upto polyOneSpec)

/-- 'portmanteaulaw06.PolyTimes', WHERE WHAT IT READS IS OF BULK AT MOST 1048576: true; the input reads as it did. -/
def polyTimesUptoRow : OpenClaim := { program := "ytofgfkcmdldcmaa", sum := "2e894a86e86efe6e714b999c85097a06c5e761ac2d3bebd1a39762461c1dd4f1", func := "portmanteau/portmanteaulaw06.PolyTimes", spec := "polyTimes", inPlace := ["math/bits.Add64", "math/bits.Sub64"], apart := false, narrowed := true }
def PolyTimesUptoSaid : Prop := polyTimesUptoRow.holds Try.pinned (OpenSpec.upto polyTimesSpec)

/-- 'portmanteaulaw06.PolyEdge', WHERE WHAT IT READS IS OF BULK AT MOST 1048576: true; the input reads as it did. -/
def polyEdgeUptoRow : OpenClaim := { program := "ytofgfkcmdldcmaa", sum := "2e894a86e86efe6e714b999c85097a06c5e761ac2d3bebd1a39762461c1dd4f1", func := "portmanteau/portmanteaulaw06.PolyEdge", spec := "polyEdge", inPlace := ["math/bits.Add64", "math/bits.Sub64"], apart := false, narrowed := true }
def PolyEdgeUptoSaid : Prop := polyEdgeUptoRow.holds Try.pinned (OpenSpec.upto polyEdgeSpec)

/-- 'portmanteaulaw06.PolyClears', WHERE WHAT IT READS IS OF BULK AT MOST 1048576: true; the input reads as it did. -/
def polyClearsUptoRow : OpenClaim := { program := "ytofgfkcmdldcmaa", sum := "2e894a86e86efe6e714b999c85097a06c5e761ac2d3bebd1a39762461c1dd4f1", func := "portmanteau/portmanteaulaw06.PolyClears", spec := "polyClears", inPlace := ["math/bits.Add64", "math/bits.Sub64"], apart := false, narrowed := true }
def PolyClearsUptoSaid : Prop := polyClearsUptoRow.holds Try.pinned (OpenSpec.upto polyClearsSpec)

end Rows
end Go.Proofs.Ytofgfkcmdldcmaa
