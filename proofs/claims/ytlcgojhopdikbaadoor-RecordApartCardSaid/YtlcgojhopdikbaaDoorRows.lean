/-
  NARROWER THAN 'FOR EVERY INPUT', by the rows' own cells (each row's printed sentence says how): RecordPlans: laid · RecordReads: laid · RecordSizes: laid · RecordParts: laid · RecordEncodes: laid · RecordOne: laid · RecordTurned: laid · RecordApart: laid.
  DERIVED. THE GIVEN ROWS OF THIS SEAT. 8 by the template 'for every input the law returns true; each argument reads behind the call as it read before'; 0 by the template 'total and deterministic' (their statements: YtlcgojhopdikbaaDoorTotals.lean).
  GIVEN WITH THE SEED: the statements are not yours to turn. If you find one false, say at which input.
  Laid BY PROGRAM, IN A SANDBOX (cutbox-rows.mjs): the forced cells as the released guide's own fill.sh prints them over the translation e912b612dad919f1… (all of the seat's roots in one cut). By AI agents, Wed Nov 11 2026. No macro, syntax, notation, axiom, sorry.
-/
import Derived.Test.YtlcgojhopdikbaaDoorChecked
import GoSem.Claim
import GoSem.ClaimJoined
import GoSem.ClaimMapViews
import Derived.JoinedTies
import Derived.KernelRfl
namespace Go.Proofs.YtlcgojhopdikbaaDoor
/- THE CELL 'sum', in the pinned program and in every row, IS THE sha256 OF THE DUMP (.gsa) THAT YtlcgojhopdikbaaDoorProg.lean LOADS. Nothing in Lean hashes anything: it is a label: what it is worth is what the hold of that sum in a sandbox is worth. -/
noncomputable def Tryd.pinned : Pinned := { name := "ytlcgojhopdikbaadoor", sum := "e912b612dad919f14e2ff116ba4bc016c62d1df5e48a90d33b842e82ecaff5af", checked := Tryd.checked }
namespace Rows
def none {H : Type} : Left H := { results := [], args := [] }

/- WHAT THE LISTED PACKAGE-LEVEL VARIABLES READ AS WHEN THE CALL BEGINS. Each datum BY PROGRAM (the guide's laid-datum.mjs) off the statement by which the dump's own 'gosem.cut.vars' lays the variable. In a bare row this is a premise. The card (YtlcgojhopdikbaaDoorCards.lean) ties it to the program's text. -/
def laid_portmanteau_sum_nibbles {H : Type} : DataW H := .agg [.lit (.int .u32 0), .lit (.int .u32 274646895), .lit (.int .u32 549293790), .lit (.int .u32 820201905), .lit (.int .u32 1098587580), .lit (.int .u32 1361435347), .lit (.int .u32 1640403810), .lit (.int .u32 1905808397), .lit (.int .u32 2197175160), .lit (.int .u32 2460548119), .lit (.int .u32 2722870694), .lit (.int .u32 2987750089), .lit (.int .u32 3280807620), .lit (.int .u32 3553878443), .lit (.int .u32 3811616794), .lit (.int .u32 4084100981)]

/-- 'portmanteaulaw14.RecordPlans': WHATEVER THE INPUT: true; the input reads as it did. -/
def recordPlansSpec : ChangeSpec := { name := "recordPlans", fn := fun _ => fun
  | [d] => { results := [.lit (.bool true)], args := [d] }
  | _ => none }
def recordPlansRow : OpenClaim := { program := "ytlcgojhopdikbaadoor", sum := "e912b612dad919f14e2ff116ba4bc016c62d1df5e48a90d33b842e82ecaff5af", func := "portmanteau/portmanteaulaw14.RecordPlans", spec := "recordPlans", unfollowed := true, recurses := true, named := ["portmanteau/sum.nibbles"], apart := false, laid := [("portmanteau/sum.nibbles", laid_portmanteau_sum_nibbles)] }
def RecordPlansSaid : Prop := recordPlansRow.holds Tryd.pinned (OpenSpec.ofChange recordPlansSpec)

/-- ITS FALSE NEIGHBOUR: 'it returns false'. Refute it at one input. -/
def recordPlansWrong : ChangeSpec := { name := "recordPlans", fn := fun _ => fun
  | [d] => { results := [.lit (.bool false)], args := [d] }
  | _ => none }
def RecordPlansWrongFalsely : Prop := recordPlansRow.holds Tryd.pinned (OpenSpec.ofChange recordPlansWrong)

/-- 'portmanteaulaw14.RecordReads': WHATEVER THE INPUT: true; the input reads as it did. -/
def recordReadsSpec : ChangeSpec := { name := "recordReads", fn := fun _ => fun
  | [d] => { results := [.lit (.bool true)], args := [d] }
  | _ => none }
def recordReadsRow : OpenClaim := { program := "ytlcgojhopdikbaadoor", sum := "e912b612dad919f14e2ff116ba4bc016c62d1df5e48a90d33b842e82ecaff5af", func := "portmanteau/portmanteaulaw14.RecordReads", spec := "recordReads", unfollowed := true, recurses := true, named := ["portmanteau/sum.nibbles"], apart := false, laid := [("portmanteau/sum.nibbles", laid_portmanteau_sum_nibbles)] }
def RecordReadsSaid : Prop := recordReadsRow.holds Tryd.pinned (OpenSpec.ofChange recordReadsSpec)

/-- ITS FALSE NEIGHBOUR: 'it returns false'. Refute it at one input. -/
def recordReadsWrong : ChangeSpec := { name := "recordReads", fn := fun _ => fun
  | [d] => { results := [.lit (.bool false)], args := [d] }
  | _ => none }
def RecordReadsWrongFalsely : Prop := recordReadsRow.holds Tryd.pinned (OpenSpec.ofChange recordReadsWrong)

/-- 'portmanteaulaw14.RecordSizes': WHATEVER THE INPUT: true; the input reads as it did. -/
def recordSizesSpec : ChangeSpec := { name := "recordSizes", fn := fun _ => fun
  | [d] => { results := [.lit (.bool true)], args := [d] }
  | _ => none }
def recordSizesRow : OpenClaim := { program := "ytlcgojhopdikbaadoor", sum := "e912b612dad919f14e2ff116ba4bc016c62d1df5e48a90d33b842e82ecaff5af", func := "portmanteau/portmanteaulaw14.RecordSizes", spec := "recordSizes", unfollowed := true, recurses := true, named := ["portmanteau/sum.nibbles"], apart := false, laid := [("portmanteau/sum.nibbles", laid_portmanteau_sum_nibbles)] }
def RecordSizesSaid : Prop := recordSizesRow.holds Tryd.pinned (OpenSpec.ofChange recordSizesSpec)

/-- ITS FALSE NEIGHBOUR: 'it returns false'. Refute it at one input. -/
def recordSizesWrong : ChangeSpec := { name := "recordSizes", fn := fun _ => fun
  | [d] => { results := [.lit (.bool false)], args := [d] }
  | _ => none }
def RecordSizesWrongFalsely : Prop := recordSizesRow.holds Tryd.pinned (OpenSpec.ofChange recordSizesWrong)

/-- 'portmanteaulaw14.RecordParts': WHATEVER THE INPUT: true; the input reads as it did. -/
def recordPartsSpec : ChangeSpec := { name := "recordParts", fn := fun _ => fun
  | [d] => { results := [.lit (.bool true)], args := [d] }
  | _ => none }
def recordPartsRow : OpenClaim := { program := "ytlcgojhopdikbaadoor", sum := "e912b612dad919f14e2ff116ba4bc016c62d1df5e48a90d33b842e82ecaff5af", func := "portmanteau/portmanteaulaw14.RecordParts", spec := "recordParts", unfollowed := true, recurses := true, named := ["portmanteau/sum.nibbles"], apart := false, laid := [("portmanteau/sum.nibbles", laid_portmanteau_sum_nibbles)] }
def RecordPartsSaid : Prop := recordPartsRow.holds Tryd.pinned (OpenSpec.ofChange recordPartsSpec)

/-- ITS FALSE NEIGHBOUR: 'it returns false'. Refute it at one input. -/
def recordPartsWrong : ChangeSpec := { name := "recordParts", fn := fun _ => fun
  | [d] => { results := [.lit (.bool false)], args := [d] }
  | _ => none }
def RecordPartsWrongFalsely : Prop := recordPartsRow.holds Tryd.pinned (OpenSpec.ofChange recordPartsWrong)

/-- 'portmanteaulaw14.RecordEncodes': WHATEVER THE INPUT: true; the input reads as it did. -/
def recordEncodesSpec : ChangeSpec := { name := "recordEncodes", fn := fun _ => fun
  | [d] => { results := [.lit (.bool true)], args := [d] }
  | _ => none }
def recordEncodesRow : OpenClaim := { program := "ytlcgojhopdikbaadoor", sum := "e912b612dad919f14e2ff116ba4bc016c62d1df5e48a90d33b842e82ecaff5af", func := "portmanteau/portmanteaulaw14.RecordEncodes", spec := "recordEncodes", unfollowed := true, recurses := true, named := ["portmanteau/sum.nibbles"], apart := false, laid := [("portmanteau/sum.nibbles", laid_portmanteau_sum_nibbles)] }
def RecordEncodesSaid : Prop := recordEncodesRow.holds Tryd.pinned (OpenSpec.ofChange recordEncodesSpec)

/-- ITS FALSE NEIGHBOUR: 'it returns false'. Refute it at one input. -/
def recordEncodesWrong : ChangeSpec := { name := "recordEncodes", fn := fun _ => fun
  | [d] => { results := [.lit (.bool false)], args := [d] }
  | _ => none }
def RecordEncodesWrongFalsely : Prop := recordEncodesRow.holds Tryd.pinned (OpenSpec.ofChange recordEncodesWrong)

/-- 'portmanteaulaw14.RecordOne': WHATEVER THE INPUT: true; the input reads as it did. -/
def recordOneSpec : ChangeSpec := { name := "recordOne", fn := fun _ => fun
  | [d] => { results := [.lit (.bool true)], args := [d] }
  | _ => none }
def recordOneRow : OpenClaim := { program := "ytlcgojhopdikbaadoor", sum := "e912b612dad919f14e2ff116ba4bc016c62d1df5e48a90d33b842e82ecaff5af", func := "portmanteau/portmanteaulaw14.RecordOne", spec := "recordOne", unfollowed := true, recurses := true, named := ["portmanteau/sum.nibbles"], apart := false, laid := [("portmanteau/sum.nibbles", laid_portmanteau_sum_nibbles)] }
def RecordOneSaid : Prop := recordOneRow.holds Tryd.pinned (OpenSpec.ofChange recordOneSpec)

/-- ITS FALSE NEIGHBOUR: 'it returns false'. Refute it at one input. -/
def recordOneWrong : ChangeSpec := { name := "recordOne", fn := fun _ => fun
  | [d] => { results := [.lit (.bool false)], args := [d] }
  | _ => none }
def RecordOneWrongFalsely : Prop := recordOneRow.holds Tryd.pinned (OpenSpec.ofChange recordOneWrong)

/-- 'portmanteaulaw14.RecordTurned': WHATEVER THE INPUT: true; the input reads as it did. -/
def recordTurnedSpec : ChangeSpec := { name := "recordTurned", fn := fun _ => fun
  | [d1, d2, d3] => { results := [.lit (.bool true)], args := [d1, d2, d3] }
  | _ => none }
def recordTurnedRow : OpenClaim := { program := "ytlcgojhopdikbaadoor", sum := "e912b612dad919f14e2ff116ba4bc016c62d1df5e48a90d33b842e82ecaff5af", func := "portmanteau/portmanteaulaw14.RecordTurned", spec := "recordTurned", unfollowed := true, recurses := true, named := ["portmanteau/sum.nibbles"], apart := false, laid := [("portmanteau/sum.nibbles", laid_portmanteau_sum_nibbles)] }
def RecordTurnedSaid : Prop := recordTurnedRow.holds Tryd.pinned (OpenSpec.ofChange recordTurnedSpec)

/-- ITS FALSE NEIGHBOUR: 'it returns false'. Refute it at one input. -/
def recordTurnedWrong : ChangeSpec := { name := "recordTurned", fn := fun _ => fun
  | [d1, d2, d3] => { results := [.lit (.bool false)], args := [d1, d2, d3] }
  | _ => none }
def RecordTurnedWrongFalsely : Prop := recordTurnedRow.holds Tryd.pinned (OpenSpec.ofChange recordTurnedWrong)

/-- 'portmanteaulaw14.RecordApart': WHATEVER THE INPUT: true; the input reads as it did. -/
def recordApartSpec : ChangeSpec := { name := "recordApart", fn := fun _ => fun
  | [d1, d2] => { results := [.lit (.bool true)], args := [d1, d2] }
  | _ => none }
def recordApartRow : OpenClaim := { program := "ytlcgojhopdikbaadoor", sum := "e912b612dad919f14e2ff116ba4bc016c62d1df5e48a90d33b842e82ecaff5af", func := "portmanteau/portmanteaulaw14.RecordApart", spec := "recordApart", unfollowed := true, recurses := true, named := ["portmanteau/sum.nibbles"], apart := false, laid := [("portmanteau/sum.nibbles", laid_portmanteau_sum_nibbles)] }
def RecordApartSaid : Prop := recordApartRow.holds Tryd.pinned (OpenSpec.ofChange recordApartSpec)

/-- ITS FALSE NEIGHBOUR: 'it returns false'. Refute it at one input. -/
def recordApartWrong : ChangeSpec := { name := "recordApart", fn := fun _ => fun
  | [d1, d2] => { results := [.lit (.bool false)], args := [d1, d2] }
  | _ => none }
def RecordApartWrongFalsely : Prop := recordApartRow.holds Tryd.pinned (OpenSpec.ofChange recordApartWrong)

/- THE SECOND FORM. 'bulk': how many values and letters a reading holds, each counted each time it is reached (what is shared counts as often as it is met; a slice's spare places count too). A statement '..UptoSaid' is the law's where the arguments, and the package variables that the reading takes, are together of bulk at most 1048576: NARROWER than '..Said'. Prove '..Said' where nothing that the law and all that it calls make is longer than what came in: it says more and counts as full. Else prove '..UptoSaid'. A law counts once. -/
mutual
def uptoBulk {H : Type} : DataW H → Nat
  | .lit (.string bytes) => bytes.length + 1
  | .lit _ => 1
  | .nil => 1
  | .ptr d => uptoBulk d + 1
  | .slice elems spare => uptoBulkAll elems + uptoBulkAll spare + 1
  | .agg parts => uptoBulkAll parts + 1
  | .iface _ d => uptoBulk d + 1
  | .map entries => uptoBulkEntries entries + 1
  | .held _ => 1
def uptoBulkAll {H : Type} : List (DataW H) → Nat
  | [] => 0
  | d :: r => uptoBulk d + uptoBulkAll r
def uptoBulkEntries {H : Type} : List (Lit × DataW H) → Nat
  | [] => 0
  | x :: r => uptoBulkEntry x + uptoBulkEntries r
def uptoBulkEntry {H : Type} : Lit × DataW H → Nat
  | (.string bytes, d) => bytes.length + uptoBulk d + 1
  | (_, d) => uptoBulk d + 1
 end
def uptoSmall : (H : Type) → List (DataW H) → Bool := fun _ ds => decide (uptoBulkAll ds ≤ 1048576)
def OpenSpec.upto (s : _root_.Go.ChangeSpec) : _root_.Go.OpenSpec := { _root_.Go.OpenSpec.ofChange s with cond := some uptoSmall }

/-- 'portmanteaulaw14.RecordPlans', WHERE WHAT IT READS IS OF BULK AT MOST 1048576: true; the input reads as it did. -/
def recordPlansUptoRow : OpenClaim := { program := "ytlcgojhopdikbaadoor", sum := "e912b612dad919f14e2ff116ba4bc016c62d1df5e48a90d33b842e82ecaff5af", func := "portmanteau/portmanteaulaw14.RecordPlans", spec := "recordPlans", unfollowed := true, recurses := true, named := ["portmanteau/sum.nibbles"], apart := false, laid := [("portmanteau/sum.nibbles", laid_portmanteau_sum_nibbles)], narrowed := true }
def RecordPlansUptoSaid : Prop := recordPlansUptoRow.holds Tryd.pinned (OpenSpec.upto recordPlansSpec)

/-- 'portmanteaulaw14.RecordReads', WHERE WHAT IT READS IS OF BULK AT MOST 1048576: true; the input reads as it did. -/
def recordReadsUptoRow : OpenClaim := { program := "ytlcgojhopdikbaadoor", sum := "e912b612dad919f14e2ff116ba4bc016c62d1df5e48a90d33b842e82ecaff5af", func := "portmanteau/portmanteaulaw14.RecordReads", spec := "recordReads", unfollowed := true, recurses := true, named := ["portmanteau/sum.nibbles"], apart := false, laid := [("portmanteau/sum.nibbles", laid_portmanteau_sum_nibbles)], narrowed := true }
def RecordReadsUptoSaid : Prop := recordReadsUptoRow.holds Tryd.pinned (OpenSpec.upto recordReadsSpec)

/-- 'portmanteaulaw14.RecordSizes', WHERE WHAT IT READS IS OF BULK AT MOST 1048576: true; the input reads as it did. -/
def recordSizesUptoRow : OpenClaim := { program := "ytlcgojhopdikbaadoor", sum := "e912b612dad919f14e2ff116ba4bc016c62d1df5e48a90d33b842e82ecaff5af", func := "portmanteau/portmanteaulaw14.RecordSizes", spec := "recordSizes", unfollowed := true, recurses := true, named := ["portmanteau/sum.nibbles"], apart := false, laid := [("portmanteau/sum.nibbles", laid_portmanteau_sum_nibbles)], narrowed := true }
def RecordSizesUptoSaid : Prop := recordSizesUptoRow.holds Tryd.pinned (OpenSpec.upto recordSizesSpec)

/-- 'portmanteaulaw14.RecordParts', WHERE WHAT IT READS IS OF BULK AT MOST 1048576: true; the input reads as it did. -/
def recordPartsUptoRow : OpenClaim := { program := "ytlcgojhopdikbaadoor", sum := "e912b612dad919f14e2ff116ba4bc016c62d1df5e48a90d33b842e82ecaff5af", func := "portmanteau/portmanteaulaw14.RecordParts", spec := "recordParts", unfollowed := true, recurses := true, named := ["portmanteau/sum.nibbles"], apart := false, laid := [("portmanteau/sum.nibbles", laid_portmanteau_sum_nibbles)], narrowed := true }
def RecordPartsUptoSaid : Prop := recordPartsUptoRow.holds Tryd.pinned (OpenSpec.upto recordPartsSpec)

/-- 'portmanteaulaw14.RecordEncodes', WHERE WHAT IT READS IS OF BULK AT MOST 1048576: true; the input reads as it did. -/
def recordEncodesUptoRow : OpenClaim := { program := "ytlcgojhopdikbaadoor", sum := "e912b612dad919f14e2ff116ba4bc016c62d1df5e48a90d33b842e82ecaff5af", func := "portmanteau/portmanteaulaw14.RecordEncodes", spec := "recordEncodes", unfollowed := true, recurses := true, named := ["portmanteau/sum.nibbles"], apart := false, laid := [("portmanteau/sum.nibbles", laid_portmanteau_sum_nibbles)], narrowed := true }
def RecordEncodesUptoSaid : Prop := recordEncodesUptoRow.holds Tryd.pinned (OpenSpec.upto recordEncodesSpec)

/-- 'portmanteaulaw14.RecordOne', WHERE WHAT IT READS IS OF BULK AT MOST 1048576: true; the input reads as it did. -/
def recordOneUptoRow : OpenClaim := { program := "ytlcgojhopdikbaadoor", sum := "e912b612dad919f14e2ff116ba4bc016c62d1df5e48a90d33b842e82ecaff5af", func := "portmanteau/portmanteaulaw14.RecordOne", spec := "recordOne", unfollowed := true, recurses := true, named := ["portmanteau/sum.nibbles"], apart := false, laid := [("portmanteau/sum.nibbles", laid_portmanteau_sum_nibbles)], narrowed := true }
def RecordOneUptoSaid : Prop := recordOneUptoRow.holds Tryd.pinned (OpenSpec.upto recordOneSpec)

/-- 'portmanteaulaw14.RecordTurned', WHERE WHAT IT READS IS OF BULK AT MOST 1048576: true; the input reads as it did. -/
def recordTurnedUptoRow : OpenClaim := { program := "ytlcgojhopdikbaadoor", sum := "e912b612dad919f14e2ff116ba4bc016c62d1df5e48a90d33b842e82ecaff5af", func := "portmanteau/portmanteaulaw14.RecordTurned", spec := "recordTurned", unfollowed := true, recurses := true, named := ["portmanteau/sum.nibbles"], apart := false, laid := [("portmanteau/sum.nibbles", laid_portmanteau_sum_nibbles)], narrowed := true }
def RecordTurnedUptoSaid : Prop := recordTurnedUptoRow.holds Tryd.pinned (OpenSpec.upto recordTurnedSpec)

/-- 'portmanteaulaw14.RecordApart', WHERE WHAT IT READS IS OF BULK AT MOST 1048576: true; the input reads as it did. -/
def recordApartUptoRow : OpenClaim := { program := "ytlcgojhopdikbaadoor", sum := "e912b612dad919f14e2ff116ba4bc016c62d1df5e48a90d33b842e82ecaff5af", func := "portmanteau/portmanteaulaw14.RecordApart", spec := "recordApart", unfollowed := true, recurses := true, named := ["portmanteau/sum.nibbles"], apart := false, laid := [("portmanteau/sum.nibbles", laid_portmanteau_sum_nibbles)], narrowed := true }
def RecordApartUptoSaid : Prop := recordApartUptoRow.holds Tryd.pinned (OpenSpec.upto recordApartSpec)

end Rows
end Go.Proofs.YtlcgojhopdikbaaDoor
