/-
  No cell of these rows narrows 'for every input' (looked for: loops, veiled, ifaces, maps, wideKeys, modest, calm, conditions, laid).
  DERIVED. THE GIVEN ROWS OF THIS SEAT. 7 by the template 'for every input the law returns true; each argument reads behind the call as it read before'; 0 by the template 'total and deterministic' (their statements: YtpmakaccokidbaaTotals.lean).
  GIVEN WITH THE SEED: the statements are not yours to turn. If you find one false, say at which input.
  Laid BY PROGRAM, IN A SANDBOX (cutbox-rows.mjs): the forced cells as the released guide's own fill.sh prints them over the translation e7821039b3158e54… (all of the seat's roots in one cut). By AI agents, Wed Nov 11 2026. No macro, syntax, notation, axiom, sorry.
-/
import Derived.Test.YtpmakaccokidbaaChecked
import GoSem.Claim
import GoSem.ClaimJoined
import GoSem.ClaimMapViews
import Derived.JoinedTies
import Derived.KernelRfl
namespace Go.Proofs.Ytpmakaccokidbaa
/- THE CELL 'sum', in the pinned program and in every row, IS THE sha256 OF THE DUMP (.gsa) THAT YtpmakaccokidbaaProg.lean LOADS. Nothing in Lean hashes anything: it is a label: what it is worth is what the hold of that sum in a sandbox is worth. -/
noncomputable def Try.pinned : Pinned := { name := "ytpmakaccokidbaa", sum := "e7821039b3158e54cdd833a4c1c463548c2921762395941f0d9403ba53db885c", checked := Try.checked }
namespace Rows
def none {H : Type} : Left H := { results := [], args := [] }

/-- 'portmanteaulaw05.StreamQuarters': WHATEVER THE INPUT: true; the input reads as it did. -/
def streamQuartersSpec : ChangeSpec := { name := "streamQuarters", fn := fun _ => fun
  | [d1, d2, d3, d4] => { results := [.lit (.bool true)], args := [d1, d2, d3, d4] }
  | _ => none }
def streamQuartersRow : OpenClaim := { program := "ytpmakaccokidbaa", sum := "e7821039b3158e54cdd833a4c1c463548c2921762395941f0d9403ba53db885c", func := "portmanteau/portmanteaulaw05.StreamQuarters", spec := "streamQuarters", unfollowed := true, recurses := true, apart := false }
def StreamQuartersSaid : Prop := streamQuartersRow.holds Try.pinned (OpenSpec.ofChange streamQuartersSpec)

/-- ITS FALSE NEIGHBOUR: 'it returns false'. Refute it at one input. -/
def streamQuartersWrong : ChangeSpec := { name := "streamQuarters", fn := fun _ => fun
  | [d1, d2, d3, d4] => { results := [.lit (.bool false)], args := [d1, d2, d3, d4] }
  | _ => none }
def StreamQuartersWrongFalsely : Prop := streamQuartersRow.holds Try.pinned (OpenSpec.ofChange streamQuartersWrong)

/-- 'portmanteaulaw05.StreamBlocks': WHATEVER THE INPUT: true; the input reads as it did. -/
def streamBlocksSpec : ChangeSpec := { name := "streamBlocks", fn := fun _ => fun
  | [d1, d2, d3, d4] => { results := [.lit (.bool true)], args := [d1, d2, d3, d4] }
  | _ => none }
def streamBlocksRow : OpenClaim := { program := "ytpmakaccokidbaa", sum := "e7821039b3158e54cdd833a4c1c463548c2921762395941f0d9403ba53db885c", func := "portmanteau/portmanteaulaw05.StreamBlocks", spec := "streamBlocks", unfollowed := true, recurses := true, apart := false }
def StreamBlocksSaid : Prop := streamBlocksRow.holds Try.pinned (OpenSpec.ofChange streamBlocksSpec)

/-- ITS FALSE NEIGHBOUR: 'it returns false'. Refute it at one input. -/
def streamBlocksWrong : ChangeSpec := { name := "streamBlocks", fn := fun _ => fun
  | [d1, d2, d3, d4] => { results := [.lit (.bool false)], args := [d1, d2, d3, d4] }
  | _ => none }
def StreamBlocksWrongFalsely : Prop := streamBlocksRow.holds Try.pinned (OpenSpec.ofChange streamBlocksWrong)

/-- 'portmanteaulaw05.StreamXors': WHATEVER THE INPUT: true; the input reads as it did. -/
def streamXorsSpec : ChangeSpec := { name := "streamXors", fn := fun _ => fun
  | [d1, d2, d3, d4] => { results := [.lit (.bool true)], args := [d1, d2, d3, d4] }
  | _ => none }
def streamXorsRow : OpenClaim := { program := "ytpmakaccokidbaa", sum := "e7821039b3158e54cdd833a4c1c463548c2921762395941f0d9403ba53db885c", func := "portmanteau/portmanteaulaw05.StreamXors", spec := "streamXors", unfollowed := true, recurses := true, apart := false }
def StreamXorsSaid : Prop := streamXorsRow.holds Try.pinned (OpenSpec.ofChange streamXorsSpec)

/-- ITS FALSE NEIGHBOUR: 'it returns false'. Refute it at one input. -/
def streamXorsWrong : ChangeSpec := { name := "streamXors", fn := fun _ => fun
  | [d1, d2, d3, d4] => { results := [.lit (.bool false)], args := [d1, d2, d3, d4] }
  | _ => none }
def StreamXorsWrongFalsely : Prop := streamXorsRow.holds Try.pinned (OpenSpec.ofChange streamXorsWrong)

/-- 'portmanteaulaw05.StreamParts': WHATEVER THE INPUT: true; the input reads as it did. -/
def streamPartsSpec : ChangeSpec := { name := "streamParts", fn := fun _ => fun
  | [d1, d2, d3, d4, d5] => { results := [.lit (.bool true)], args := [d1, d2, d3, d4, d5] }
  | _ => none }
def streamPartsRow : OpenClaim := { program := "ytpmakaccokidbaa", sum := "e7821039b3158e54cdd833a4c1c463548c2921762395941f0d9403ba53db885c", func := "portmanteau/portmanteaulaw05.StreamParts", spec := "streamParts", unfollowed := true, recurses := true, apart := false }
def StreamPartsSaid : Prop := streamPartsRow.holds Try.pinned (OpenSpec.ofChange streamPartsSpec)

/-- ITS FALSE NEIGHBOUR: 'it returns false'. Refute it at one input. -/
def streamPartsWrong : ChangeSpec := { name := "streamParts", fn := fun _ => fun
  | [d1, d2, d3, d4, d5] => { results := [.lit (.bool false)], args := [d1, d2, d3, d4, d5] }
  | _ => none }
def StreamPartsWrongFalsely : Prop := streamPartsRow.holds Try.pinned (OpenSpec.ofChange streamPartsWrong)

/-- 'portmanteaulaw05.StreamLine': WHATEVER THE INPUT: true; the input reads as it did. -/
def streamLineSpec : ChangeSpec := { name := "streamLine", fn := fun _ => fun
  | [d1, d2, d3, d4, d5] => { results := [.lit (.bool true)], args := [d1, d2, d3, d4, d5] }
  | _ => none }
def streamLineRow : OpenClaim := { program := "ytpmakaccokidbaa", sum := "e7821039b3158e54cdd833a4c1c463548c2921762395941f0d9403ba53db885c", func := "portmanteau/portmanteaulaw05.StreamLine", spec := "streamLine", unfollowed := true, recurses := true, apart := false }
def StreamLineSaid : Prop := streamLineRow.holds Try.pinned (OpenSpec.ofChange streamLineSpec)

/-- ITS FALSE NEIGHBOUR: 'it returns false'. Refute it at one input. -/
def streamLineWrong : ChangeSpec := { name := "streamLine", fn := fun _ => fun
  | [d1, d2, d3, d4, d5] => { results := [.lit (.bool false)], args := [d1, d2, d3, d4, d5] }
  | _ => none }
def StreamLineWrongFalsely : Prop := streamLineRow.holds Try.pinned (OpenSpec.ofChange streamLineWrong)

/-- 'portmanteaulaw05.StreamSkips': WHATEVER THE INPUT: true; the input reads as it did. -/
def streamSkipsSpec : ChangeSpec := { name := "streamSkips", fn := fun _ => fun
  | [d1, d2, d3] => { results := [.lit (.bool true)], args := [d1, d2, d3] }
  | _ => none }
def streamSkipsRow : OpenClaim := { program := "ytpmakaccokidbaa", sum := "e7821039b3158e54cdd833a4c1c463548c2921762395941f0d9403ba53db885c", func := "portmanteau/portmanteaulaw05.StreamSkips", spec := "streamSkips", unfollowed := true, recurses := true, apart := false }
def StreamSkipsSaid : Prop := streamSkipsRow.holds Try.pinned (OpenSpec.ofChange streamSkipsSpec)

/-- ITS FALSE NEIGHBOUR: 'it returns false'. Refute it at one input. -/
def streamSkipsWrong : ChangeSpec := { name := "streamSkips", fn := fun _ => fun
  | [d1, d2, d3] => { results := [.lit (.bool false)], args := [d1, d2, d3] }
  | _ => none }
def StreamSkipsWrongFalsely : Prop := streamSkipsRow.holds Try.pinned (OpenSpec.ofChange streamSkipsWrong)

/-- 'portmanteaulaw05.StreamNoughts': WHATEVER THE INPUT: true; the input reads as it did. -/
def streamNoughtsSpec : ChangeSpec := { name := "streamNoughts", fn := fun _ => fun
  | [d1, d2, d3, d4] => { results := [.lit (.bool true)], args := [d1, d2, d3, d4] }
  | _ => none }
def streamNoughtsRow : OpenClaim := { program := "ytpmakaccokidbaa", sum := "e7821039b3158e54cdd833a4c1c463548c2921762395941f0d9403ba53db885c", func := "portmanteau/portmanteaulaw05.StreamNoughts", spec := "streamNoughts", unfollowed := true, recurses := true, apart := false }
def StreamNoughtsSaid : Prop := streamNoughtsRow.holds Try.pinned (OpenSpec.ofChange streamNoughtsSpec)

/-- ITS FALSE NEIGHBOUR: 'it returns false'. Refute it at one input. -/
def streamNoughtsWrong : ChangeSpec := { name := "streamNoughts", fn := fun _ => fun
  | [d1, d2, d3, d4] => { results := [.lit (.bool false)], args := [d1, d2, d3, d4] }
  | _ => none }
def StreamNoughtsWrongFalsely : Prop := streamNoughtsRow.holds Try.pinned (OpenSpec.ofChange streamNoughtsWrong)

/- THE SECOND FORM. 'bulk': how many values and letters a reading holds, each counted each time it is reached (what is shared counts as often as it is met; a slice's spare places count too). A statement '..UptoSaid' is the law's where the arguments, and the package variables that the reading takes, are together of bulk at most 1048576: NARROWER than '..Said'. Prove '..Said' where nothing that the law and all that it calls make is longer than what came in: it says more and counts as full. Else prove '..UptoSaid'. A law counts once. -/
mutual
def uptoBulk {H : Type} : DataW H → Nat
  | .lit (.string bytes) => bytes.length + 1
  | .lit _ => 1
  | .nil => 1
  | .ptr d => uptoBulk d + 1
  | .slice elems spare => uptoBulkAll elems + uptoBulkAll spare + 1
  | .agg parts => uptoBulkAll parts + 1
  | .iface _ d => uptoBulk d + 1
  | .map entries => uptoBulkEntries entries + 1
  | .held _ => 1
def uptoBulkAll {H : Type} : List (DataW H) → Nat
  | [] => 0
  | d :: r => uptoBulk d + uptoBulkAll r
def uptoBulkEntries {H : Type} : List (Lit × DataW H) → Nat
  | [] => 0
  | x :: r => uptoBulkEntry x + uptoBulkEntries r
def uptoBulkEntry {H : Type} : Lit × DataW H → Nat
  | (.string bytes, d) => bytes.length + uptoBulk d + 1
  | (_, d) => uptoBulk d + 1
 end
def uptoSmall : (H : Type) → List (DataW H) → Bool := fun _ ds => decide (uptoBulkAll ds ≤ 1048576)
def OpenSpec.upto (s : _root_.Go.ChangeSpec) : _root_.Go.OpenSpec := { _root_.Go.OpenSpec.ofChange s with cond := some uptoSmall }

/-- 'portmanteaulaw05.StreamQuarters', WHERE WHAT IT READS IS OF BULK AT MOST 1048576: true; the input reads as it did. -/
def streamQuartersUptoRow : OpenClaim := { program := "ytpmakaccokidbaa", sum := "e7821039b3158e54cdd833a4c1c463548c2921762395941f0d9403ba53db885c", func := "portmanteau/portmanteaulaw05.StreamQuarters", spec := "streamQuarters", unfollowed := true, recurses := true, apart := false, narrowed := true }
def StreamQuartersUptoSaid : Prop := streamQuartersUptoRow.holds Try.pinned (OpenSpec.upto streamQuartersSpec)

/-- 'portmanteaulaw05.StreamBlocks', WHERE WHAT IT READS IS OF BULK AT MOST 1048576: true; the input reads as it did. -/
def streamBlocksUptoRow : OpenClaim := { program := "ytpmakaccokidbaa", sum := "e7821039b3158e54cdd833a4c1c463548c2921762395941f0d9403ba53db885c", func := "portmanteau/portmanteaulaw05.StreamBlocks", spec := "streamBlocks", unfollowed := true, recurses := true, apart := false, narrowed := true }
def StreamBlocksUptoSaid : Prop := streamBlocksUptoRow.holds Try.pinned (OpenSpec.upto streamBlocksSpec)

/-- 'portmanteaulaw05.StreamXors', WHERE WHAT IT READS IS OF BULK AT MOST 1048576: true; the input reads as it did. -/
def streamXorsUptoRow : OpenClaim := { program := "ytpmakaccokidbaa", sum := "e7821039b3158e54cdd833a4c1c463548c2921762395941f0d9403ba53db885c", func := "portmanteau/portmanteaulaw05.StreamXors", spec := "streamXors", unfollowed := true, recurses := true, apart := false, narrowed := true }
def StreamXorsUptoSaid : Prop := streamXorsUptoRow.holds Try.pinned (OpenSpec.upto streamXorsSpec)

/-- 'portmanteaulaw05.StreamParts', WHERE WHAT IT READS IS OF BULK AT MOST 1048576: true; the input reads as it did. -/
def streamPartsUptoRow : OpenClaim := { program := "ytpmakaccokidbaa", sum := "e7821039b3158e54cdd833a4c1c463548c2921762395941f0d9403ba53db885c", func := "portmanteau/portmanteaulaw05.StreamParts", spec := "streamParts", unfollowed := true, recurses := true, apart := false, narrowed := true }
def StreamPartsUptoSaid : Prop := streamPartsUptoRow.holds Try.pinned (OpenSpec.upto streamPartsSpec)

/-- 'portmanteaulaw05.StreamLine', WHERE WHAT IT READS IS OF BULK AT MOST 1048576: true; the input reads as it did. -/
def streamLineUptoRow : OpenClaim := { program := "ytpmakaccokidbaa", sum := "e7821039b3158e54cdd833a4c1c463548c2921762395941f0d9403ba53db885c", func := "portmanteau/portmanteaulaw05.StreamLine", spec := "streamLine", unfollowed := true, recurses := true, apart := false, narrowed := true }
def StreamLineUptoSaid : Prop := streamLineUptoRow.holds Try.pinned (OpenSpec.upto streamLineSpec)

/-- 'portmanteaulaw05.StreamSkips', WHERE WHAT IT READS IS OF BULK AT MOST 1048576: true; the input reads as it did. -/
def streamSkipsUptoRow : OpenClaim := { program := "ytpmakaccokidbaa", sum := "e7821039b3158e54cdd833a4c1c463548c2921762395941f0d9403ba53db885c", func := "portmanteau/portmanteaulaw05.StreamSkips", spec := "streamSkips", unfollowed := true, recurses := true, apart := false, narrowed := true }
def StreamSkipsUptoSaid : Prop := streamSkipsUptoRow.holds Try.pinned (OpenSpec.upto streamSkipsSpec)

/-- 'portmanteaulaw05.StreamNoughts', WHERE WHAT IT READS IS OF BULK AT MOST 1048576: true; the input reads as it did. -/
def streamNoughtsUptoRow : OpenClaim := { program := "ytpmakaccokidbaa", sum := "e7821039b3158e54cdd833a4c1c463548c2921762395941f0d9403ba53db885c", func := "portmanteau/portmanteaulaw05.StreamNoughts", spec := "streamNoughts", unfollowed := true, recurses := true, apart := false, narrowed := true }
def StreamNoughtsUptoSaid : Prop := streamNoughtsUptoRow.holds Try.pinned (OpenSpec.upto streamNoughtsSpec)

end Rows
end Go.Proofs.Ytpmakaccokidbaa
