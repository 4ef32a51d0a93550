/-
  NARROWER THAN 'FOR EVERY INPUT', by the rows' own cells (each row's printed sentence says how): JournalAppends: laid · JournalScans: laid · JournalCuts: laid · JournalLast: laid · JournalJoins: laid · JournalEach: laid.
  DERIVED. THE GIVEN ROWS OF THIS SEAT. 6 by the template 'for every input the law returns true; each argument reads behind the call as it read before'; 0 by the template 'total and deterministic' (their statements: YtibldhfgapjpfaaDoorTotals.lean).
  GIVEN WITH THE SEED: the statements are not yours to turn. If you find one false, say at which input.
  Laid BY PROGRAM, IN A SANDBOX (cutbox-rows.mjs): the forced cells as the released guide's own fill.sh prints them over the translation ecbc39457734b5c8… (all of the seat's roots in one cut). By AI agents, Wed Nov 11 2026. No macro, syntax, notation, axiom, sorry.
-/
import Derived.Test.YtibldhfgapjpfaaDoorChecked
import GoSem.Claim
import GoSem.ClaimJoined
import GoSem.ClaimMapViews
import Derived.JoinedTies
import Derived.KernelRfl
namespace Go.Proofs.YtibldhfgapjpfaaDoor
/- THE CELL 'sum', in the pinned program and in every row, IS THE sha256 OF THE DUMP (.gsa) THAT YtibldhfgapjpfaaDoorProg.lean LOADS. Nothing in Lean hashes anything: it is a label: what it is worth is what the hold of that sum in a sandbox is worth. -/
noncomputable def Tryd.pinned : Pinned := { name := "ytibldhfgapjpfaadoor", sum := "ecbc39457734b5c806f814791155ec3e69534152982f78b15d2ac513aed4bc53", checked := Tryd.checked }
namespace Rows
def none {H : Type} : Left H := { results := [], args := [] }

/- WHAT THE LISTED PACKAGE-LEVEL VARIABLES READ AS WHEN THE CALL BEGINS. Each datum BY PROGRAM (the guide's laid-datum.mjs) off the statement by which the dump's own 'gosem.cut.vars' lays the variable. In a bare row this is a premise. The card (YtibldhfgapjpfaaDoorCards.lean) ties it to the program's text. -/
def laid_portmanteau_sum_nibbles {H : Type} : DataW H := .agg [.lit (.int .u32 0), .lit (.int .u32 274646895), .lit (.int .u32 549293790), .lit (.int .u32 820201905), .lit (.int .u32 1098587580), .lit (.int .u32 1361435347), .lit (.int .u32 1640403810), .lit (.int .u32 1905808397), .lit (.int .u32 2197175160), .lit (.int .u32 2460548119), .lit (.int .u32 2722870694), .lit (.int .u32 2987750089), .lit (.int .u32 3280807620), .lit (.int .u32 3553878443), .lit (.int .u32 3811616794), .lit (.int .u32 4084100981)]

/-- 'portmanteaulaw18.JournalAppends': WHATEVER THE INPUT: true; the input reads as it did. -/
def journalAppendsSpec : ChangeSpec := { name := "journalAppends", fn := fun _ => fun
  | [d1, d2] => { results := [.lit (.bool true)], args := [d1, d2] }
  | _ => none }
def journalAppendsRow : OpenClaim := { program := "ytibldhfgapjpfaadoor", sum := "ecbc39457734b5c806f814791155ec3e69534152982f78b15d2ac513aed4bc53", func := "portmanteau/portmanteaulaw18.JournalAppends", spec := "journalAppends", unfollowed := true, recurses := true, named := ["portmanteau/sum.nibbles"], apart := false, laid := [("portmanteau/sum.nibbles", laid_portmanteau_sum_nibbles)] }
def JournalAppendsSaid : Prop := journalAppendsRow.holds Tryd.pinned (OpenSpec.ofChange journalAppendsSpec)

/-- ITS FALSE NEIGHBOUR: 'it returns false'. Refute it at one input. -/
def journalAppendsWrong : ChangeSpec := { name := "journalAppends", fn := fun _ => fun
  | [d1, d2] => { results := [.lit (.bool false)], args := [d1, d2] }
  | _ => none }
def JournalAppendsWrongFalsely : Prop := journalAppendsRow.holds Tryd.pinned (OpenSpec.ofChange journalAppendsWrong)

/-- 'portmanteaulaw18.JournalScans': WHATEVER THE INPUT: true; the input reads as it did. -/
def journalScansSpec : ChangeSpec := { name := "journalScans", fn := fun _ => fun
  | [d1, d2] => { results := [.lit (.bool true)], args := [d1, d2] }
  | _ => none }
def journalScansRow : OpenClaim := { program := "ytibldhfgapjpfaadoor", sum := "ecbc39457734b5c806f814791155ec3e69534152982f78b15d2ac513aed4bc53", func := "portmanteau/portmanteaulaw18.JournalScans", spec := "journalScans", unfollowed := true, recurses := true, named := ["portmanteau/sum.nibbles"], apart := false, laid := [("portmanteau/sum.nibbles", laid_portmanteau_sum_nibbles)] }
def JournalScansSaid : Prop := journalScansRow.holds Tryd.pinned (OpenSpec.ofChange journalScansSpec)

/-- ITS FALSE NEIGHBOUR: 'it returns false'. Refute it at one input. -/
def journalScansWrong : ChangeSpec := { name := "journalScans", fn := fun _ => fun
  | [d1, d2] => { results := [.lit (.bool false)], args := [d1, d2] }
  | _ => none }
def JournalScansWrongFalsely : Prop := journalScansRow.holds Tryd.pinned (OpenSpec.ofChange journalScansWrong)

/-- 'portmanteaulaw18.JournalCuts': WHATEVER THE INPUT: true; the input reads as it did. -/
def journalCutsSpec : ChangeSpec := { name := "journalCuts", fn := fun _ => fun
  | [d1, d2, d3] => { results := [.lit (.bool true)], args := [d1, d2, d3] }
  | _ => none }
def journalCutsRow : OpenClaim := { program := "ytibldhfgapjpfaadoor", sum := "ecbc39457734b5c806f814791155ec3e69534152982f78b15d2ac513aed4bc53", func := "portmanteau/portmanteaulaw18.JournalCuts", spec := "journalCuts", unfollowed := true, recurses := true, named := ["portmanteau/sum.nibbles"], apart := false, laid := [("portmanteau/sum.nibbles", laid_portmanteau_sum_nibbles)] }
def JournalCutsSaid : Prop := journalCutsRow.holds Tryd.pinned (OpenSpec.ofChange journalCutsSpec)

/-- ITS FALSE NEIGHBOUR: 'it returns false'. Refute it at one input. -/
def journalCutsWrong : ChangeSpec := { name := "journalCuts", fn := fun _ => fun
  | [d1, d2, d3] => { results := [.lit (.bool false)], args := [d1, d2, d3] }
  | _ => none }
def JournalCutsWrongFalsely : Prop := journalCutsRow.holds Tryd.pinned (OpenSpec.ofChange journalCutsWrong)

/-- 'portmanteaulaw18.JournalLast': WHATEVER THE INPUT: true; the input reads as it did. -/
def journalLastSpec : ChangeSpec := { name := "journalLast", fn := fun _ => fun
  | [d1, d2] => { results := [.lit (.bool true)], args := [d1, d2] }
  | _ => none }
def journalLastRow : OpenClaim := { program := "ytibldhfgapjpfaadoor", sum := "ecbc39457734b5c806f814791155ec3e69534152982f78b15d2ac513aed4bc53", func := "portmanteau/portmanteaulaw18.JournalLast", spec := "journalLast", unfollowed := true, recurses := true, named := ["portmanteau/sum.nibbles"], apart := false, laid := [("portmanteau/sum.nibbles", laid_portmanteau_sum_nibbles)] }
def JournalLastSaid : Prop := journalLastRow.holds Tryd.pinned (OpenSpec.ofChange journalLastSpec)

/-- ITS FALSE NEIGHBOUR: 'it returns false'. Refute it at one input. -/
def journalLastWrong : ChangeSpec := { name := "journalLast", fn := fun _ => fun
  | [d1, d2] => { results := [.lit (.bool false)], args := [d1, d2] }
  | _ => none }
def JournalLastWrongFalsely : Prop := journalLastRow.holds Tryd.pinned (OpenSpec.ofChange journalLastWrong)

/-- 'portmanteaulaw18.JournalJoins': WHATEVER THE INPUT: true; the input reads as it did. -/
def journalJoinsSpec : ChangeSpec := { name := "journalJoins", fn := fun _ => fun
  | [d1, d2] => { results := [.lit (.bool true)], args := [d1, d2] }
  | _ => none }
def journalJoinsRow : OpenClaim := { program := "ytibldhfgapjpfaadoor", sum := "ecbc39457734b5c806f814791155ec3e69534152982f78b15d2ac513aed4bc53", func := "portmanteau/portmanteaulaw18.JournalJoins", spec := "journalJoins", unfollowed := true, recurses := true, named := ["portmanteau/sum.nibbles"], apart := false, laid := [("portmanteau/sum.nibbles", laid_portmanteau_sum_nibbles)] }
def JournalJoinsSaid : Prop := journalJoinsRow.holds Tryd.pinned (OpenSpec.ofChange journalJoinsSpec)

/-- ITS FALSE NEIGHBOUR: 'it returns false'. Refute it at one input. -/
def journalJoinsWrong : ChangeSpec := { name := "journalJoins", fn := fun _ => fun
  | [d1, d2] => { results := [.lit (.bool false)], args := [d1, d2] }
  | _ => none }
def JournalJoinsWrongFalsely : Prop := journalJoinsRow.holds Tryd.pinned (OpenSpec.ofChange journalJoinsWrong)

/-- 'portmanteaulaw18.JournalEach': WHATEVER THE INPUT: true; the input reads as it did. -/
def journalEachSpec : ChangeSpec := { name := "journalEach", fn := fun _ => fun
  | [d1, d2] => { results := [.lit (.bool true)], args := [d1, d2] }
  | _ => none }
def journalEachRow : OpenClaim := { program := "ytibldhfgapjpfaadoor", sum := "ecbc39457734b5c806f814791155ec3e69534152982f78b15d2ac513aed4bc53", func := "portmanteau/portmanteaulaw18.JournalEach", spec := "journalEach", unfollowed := true, recurses := true, named := ["portmanteau/sum.nibbles"], apart := false, laid := [("portmanteau/sum.nibbles", laid_portmanteau_sum_nibbles)] }
def JournalEachSaid : Prop := journalEachRow.holds Tryd.pinned (OpenSpec.ofChange journalEachSpec)

/-- ITS FALSE NEIGHBOUR: 'it returns false'. Refute it at one input. -/
def journalEachWrong : ChangeSpec := { name := "journalEach", fn := fun _ => fun
  | [d1, d2] => { results := [.lit (.bool false)], args := [d1, d2] }
  | _ => none }
def JournalEachWrongFalsely : Prop := journalEachRow.holds Tryd.pinned (OpenSpec.ofChange journalEachWrong)

/- THE SECOND FORM. 'bulk': how many values and letters a reading holds, each counted each time it is reached (what is shared counts as often as it is met; a slice's spare places count too). A statement '..UptoSaid' is the law's where the arguments, and the package variables that the reading takes, are together of bulk at most 1048576: NARROWER than '..Said'. Prove '..Said' where nothing that the law and all that it calls make is longer than what came in: it says more and counts as full. Else prove '..UptoSaid'. A law counts once. -/
mutual
def uptoBulk {H : Type} : DataW H → Nat
  | .lit (.string bytes) => bytes.length + 1
  | .lit _ => 1
  | .nil => 1
  | .ptr d => uptoBulk d + 1
  | .slice elems spare => uptoBulkAll elems + uptoBulkAll spare + 1
  | .agg parts => uptoBulkAll parts + 1
  | .iface _ d => uptoBulk d + 1
  | .map entries => uptoBulkEntries entries + 1
  | .held _ => 1
def uptoBulkAll {H : Type} : List (DataW H) → Nat
  | [] => 0
  | d :: r => uptoBulk d + uptoBulkAll r
def uptoBulkEntries {H : Type} : List (Lit × DataW H) → Nat
  | [] => 0
  | x :: r => uptoBulkEntry x + uptoBulkEntries r
def uptoBulkEntry {H : Type} : Lit × DataW H → Nat
  | (.string bytes, d) => bytes.length + uptoBulk d + 1
  | (_, d) => uptoBulk d + 1
 end
def uptoSmall : (H : Type) → List (DataW H) → Bool := fun _ ds => decide (uptoBulkAll ds ≤ 1048576)
def OpenSpec.upto (s : _root_.Go.ChangeSpec) : _root_.Go.OpenSpec := { _root_.Go.OpenSpec.ofChange s with cond := some uptoSmall }

/-- 'portmanteaulaw18.JournalAppends', WHERE WHAT IT READS IS OF BULK AT MOST 1048576: true; the input reads as it did. -/
def journalAppendsUptoRow : OpenClaim := { program := "ytibldhfgapjpfaadoor", sum := "ecbc39457734b5c806f814791155ec3e69534152982f78b15d2ac513aed4bc53", func := "portmanteau/portmanteaulaw18.JournalAppends", spec := "journalAppends", unfollowed := true, recurses := true, named := ["portmanteau/sum.nibbles"], apart := false, laid := [("portmanteau/sum.nibbles", laid_portmanteau_sum_nibbles)], narrowed := true }
def JournalAppendsUptoSaid : Prop := journalAppendsUptoRow.holds Tryd.pinned (OpenSpec.upto journalAppendsSpec)

/-- 'portmanteaulaw18.JournalScans', WHERE WHAT IT READS IS OF BULK AT MOST 1048576: true; the input reads as it did. -/
def journalScansUptoRow : OpenClaim := { program := "ytibldhfgapjpfaadoor", sum := "ecbc39457734b5c806f814791155ec3e69534152982f78b15d2ac513aed4bc53", func := "portmanteau/portmanteaulaw18.JournalScans", spec := "journalScans", unfollowed := true, recurses := true, named := ["portmanteau/sum.nibbles"], apart := false, laid := [("portmanteau/sum.nibbles", laid_portmanteau_sum_nibbles)], narrowed := true }
def JournalScansUptoSaid : Prop := journalScansUptoRow.holds Tryd.pinned (OpenSpec.upto journalScansSpec)

/-- 'portmanteaulaw18.JournalCuts', WHERE WHAT IT READS IS OF BULK AT MOST 1048576: true; the input reads as it did. -/
def journalCutsUptoRow : OpenClaim := { program := "ytibldhfgapjpfaadoor", sum := "ecbc39457734b5c806f814791155ec3e69534152982f78b15d2ac513aed4bc53", func := "portmanteau/portmanteaulaw18.JournalCuts", spec := "journalCuts", unfollowed := true, recurses := true, named := ["portmanteau/sum.nibbles"], apart := false, laid := [("portmanteau/sum.nibbles", laid_portmanteau_sum_nibbles)], narrowed := true }
def JournalCutsUptoSaid : Prop := journalCutsUptoRow.holds Tryd.pinned (OpenSpec.upto journalCutsSpec)

/-- 'portmanteaulaw18.JournalLast', WHERE WHAT IT READS IS OF BULK AT MOST 1048576: true; the input reads as it did. -/
def journalLastUptoRow : OpenClaim := { program := "ytibldhfgapjpfaadoor", sum := "ecbc39457734b5c806f814791155ec3e69534152982f78b15d2ac513aed4bc53", func := "portmanteau/portmanteaulaw18.JournalLast", spec := "journalLast", unfollowed := true, recurses := true, named := ["portmanteau/sum.nibbles"], apart := false, laid := [("portmanteau/sum.nibbles", laid_portmanteau_sum_nibbles)], narrowed := true }
def JournalLastUptoSaid : Prop := journalLastUptoRow.holds Tryd.pinned (OpenSpec.upto journalLastSpec)

/-- 'portmanteaulaw18.JournalJoins', WHERE WHAT IT READS IS OF BULK AT MOST 1048576: true; the input reads as it did. -/
def journalJoinsUptoRow : OpenClaim := { program := "ytibldhfgapjpfaadoor", sum := "ecbc39457734b5c806f814791155ec3e69534152982f78b15d2ac513aed4bc53", func := "portmanteau/portmanteaulaw18.JournalJoins", spec := "journalJoins", unfollowed := true, recurses := true, named := ["portmanteau/sum.nibbles"], apart := false, laid := [("portmanteau/sum.nibbles", laid_portmanteau_sum_nibbles)], narrowed := true }
def JournalJoinsUptoSaid : Prop := journalJoinsUptoRow.holds Tryd.pinned (OpenSpec.upto journalJoinsSpec)

/-- 'portmanteaulaw18.JournalEach', WHERE WHAT IT READS IS OF BULK AT MOST 1048576: true; the input reads as it did. -/
def journalEachUptoRow : OpenClaim := { program := "ytibldhfgapjpfaadoor", sum := "ecbc39457734b5c806f814791155ec3e69534152982f78b15d2ac513aed4bc53", func := "portmanteau/portmanteaulaw18.JournalEach", spec := "journalEach", unfollowed := true, recurses := true, named := ["portmanteau/sum.nibbles"], apart := false, laid := [("portmanteau/sum.nibbles", laid_portmanteau_sum_nibbles)], narrowed := true }
def JournalEachUptoSaid : Prop := journalEachUptoRow.holds Tryd.pinned (OpenSpec.upto journalEachSpec)

end Rows
end Go.Proofs.YtibldhfgapjpfaaDoor
