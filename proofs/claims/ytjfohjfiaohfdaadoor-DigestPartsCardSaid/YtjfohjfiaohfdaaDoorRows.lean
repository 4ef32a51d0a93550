/-
  NARROWER THAN 'FOR EVERY INPUT', by the rows' own cells (each row's printed sentence says how): DigestOf: laid · DigestParts: laid · DigestBlock: laid · DigestPads: laid · DigestSteps: laid · DigestGoesOn: laid.
  DERIVED. THE GIVEN ROWS OF THIS SEAT. 6 by the template 'for every input the law returns true; each argument reads behind the call as it read before'; 0 by the template 'total and deterministic' (their statements: YtjfohjfiaohfdaaDoorTotals.lean).
  GIVEN WITH THE SEED: the statements are not yours to turn. If you find one false, say at which input.
  Laid BY PROGRAM, IN A SANDBOX (cutbox-rows.mjs): the forced cells as the released guide's own fill.sh prints them over the translation 471147e5d7693017… (all of the seat's roots in one cut). By AI agents, Wed Nov 11 2026. No macro, syntax, notation, axiom, sorry.
-/
import Derived.Test.YtjfohjfiaohfdaaDoorChecked
import GoSem.Claim
import GoSem.ClaimJoined
import GoSem.ClaimMapViews
import Derived.JoinedTies
import Derived.KernelRfl
namespace Go.Proofs.YtjfohjfiaohfdaaDoor
/- THE CELL 'sum', in the pinned program and in every row, IS THE sha256 OF THE DUMP (.gsa) THAT YtjfohjfiaohfdaaDoorProg.lean LOADS. Nothing in Lean hashes anything: it is a label: what it is worth is what the hold of that sum in a sandbox is worth. -/
noncomputable def Tryd.pinned : Pinned := { name := "ytjfohjfiaohfdaadoor", sum := "471147e5d7693017d84fe615dfbdfed21ca1c352c8652ef9eb280da7c07d9fb7", checked := Tryd.checked }
namespace Rows
def none {H : Type} : Left H := { results := [], args := [] }

/- WHAT THE LISTED PACKAGE-LEVEL VARIABLES READ AS WHEN THE CALL BEGINS. Each datum BY PROGRAM (the guide's laid-datum.mjs) off the statement by which the dump's own 'gosem.cut.vars' lays the variable. In a bare row this is a premise. The card (YtjfohjfiaohfdaaDoorCards.lean) ties it to the program's text. -/
def laid_portmanteau_digest_table {H : Type} : DataW H := .agg [.lit (.int .u32 1116352408), .lit (.int .u32 1899447441), .lit (.int .u32 3049323471), .lit (.int .u32 3921009573), .lit (.int .u32 961987163), .lit (.int .u32 1508970993), .lit (.int .u32 2453635748), .lit (.int .u32 2870763221), .lit (.int .u32 3624381080), .lit (.int .u32 310598401), .lit (.int .u32 607225278), .lit (.int .u32 1426881987), .lit (.int .u32 1925078388), .lit (.int .u32 2162078206), .lit (.int .u32 2614888103), .lit (.int .u32 3248222580), .lit (.int .u32 3835390401), .lit (.int .u32 4022224774), .lit (.int .u32 264347078), .lit (.int .u32 604807628), .lit (.int .u32 770255983), .lit (.int .u32 1249150122), .lit (.int .u32 1555081692), .lit (.int .u32 1996064986), .lit (.int .u32 2554220882), .lit (.int .u32 2821834349), .lit (.int .u32 2952996808), .lit (.int .u32 3210313671), .lit (.int .u32 3336571891), .lit (.int .u32 3584528711), .lit (.int .u32 113926993), .lit (.int .u32 338241895), .lit (.int .u32 666307205), .lit (.int .u32 773529912), .lit (.int .u32 1294757372), .lit (.int .u32 1396182291), .lit (.int .u32 1695183700), .lit (.int .u32 1986661051), .lit (.int .u32 2177026350), .lit (.int .u32 2456956037), .lit (.int .u32 2730485921), .lit (.int .u32 2820302411), .lit (.int .u32 3259730800), .lit (.int .u32 3345764771), .lit (.int .u32 3516065817), .lit (.int .u32 3600352804), .lit (.int .u32 4094571909), .lit (.int .u32 275423344), .lit (.int .u32 430227734), .lit (.int .u32 506948616), .lit (.int .u32 659060556), .lit (.int .u32 883997877), .lit (.int .u32 958139571), .lit (.int .u32 1322822218), .lit (.int .u32 1537002063), .lit (.int .u32 1747873779), .lit (.int .u32 1955562222), .lit (.int .u32 2024104815), .lit (.int .u32 2227730452), .lit (.int .u32 2361852424), .lit (.int .u32 2428436474), .lit (.int .u32 2756734187), .lit (.int .u32 3204031479), .lit (.int .u32 3329325298)]

/-- 'portmanteaulaw03.DigestOf': WHATEVER THE INPUT: true; the input reads as it did. -/
def digestOfSpec : ChangeSpec := { name := "digestOf", fn := fun _ => fun
  | [d] => { results := [.lit (.bool true)], args := [d] }
  | _ => none }
def digestOfRow : OpenClaim := { program := "ytjfohjfiaohfdaadoor", sum := "471147e5d7693017d84fe615dfbdfed21ca1c352c8652ef9eb280da7c07d9fb7", func := "portmanteau/portmanteaulaw03.DigestOf", spec := "digestOf", named := ["portmanteau/digest.table"], apart := false, laid := [("portmanteau/digest.table", laid_portmanteau_digest_table)] }
def DigestOfSaid : Prop := digestOfRow.holds Tryd.pinned (OpenSpec.ofChange digestOfSpec)

/-- ITS FALSE NEIGHBOUR: 'it returns false'. Refute it at one input. -/
def digestOfWrong : ChangeSpec := { name := "digestOf", fn := fun _ => fun
  | [d] => { results := [.lit (.bool false)], args := [d] }
  | _ => none }
def DigestOfWrongFalsely : Prop := digestOfRow.holds Tryd.pinned (OpenSpec.ofChange digestOfWrong)

/-- 'portmanteaulaw03.DigestParts': WHATEVER THE INPUT: true; the input reads as it did. -/
def digestPartsSpec : ChangeSpec := { name := "digestParts", fn := fun _ => fun
  | [d1, d2, d3] => { results := [.lit (.bool true)], args := [d1, d2, d3] }
  | _ => none }
def digestPartsRow : OpenClaim := { program := "ytjfohjfiaohfdaadoor", sum := "471147e5d7693017d84fe615dfbdfed21ca1c352c8652ef9eb280da7c07d9fb7", func := "portmanteau/portmanteaulaw03.DigestParts", spec := "digestParts", named := ["portmanteau/digest.table"], apart := false, laid := [("portmanteau/digest.table", laid_portmanteau_digest_table)] }
def DigestPartsSaid : Prop := digestPartsRow.holds Tryd.pinned (OpenSpec.ofChange digestPartsSpec)

/-- ITS FALSE NEIGHBOUR: 'it returns false'. Refute it at one input. -/
def digestPartsWrong : ChangeSpec := { name := "digestParts", fn := fun _ => fun
  | [d1, d2, d3] => { results := [.lit (.bool false)], args := [d1, d2, d3] }
  | _ => none }
def DigestPartsWrongFalsely : Prop := digestPartsRow.holds Tryd.pinned (OpenSpec.ofChange digestPartsWrong)

/-- 'portmanteaulaw03.DigestBlock': WHATEVER THE INPUT: true; the input reads as it did. -/
def digestBlockSpec : ChangeSpec := { name := "digestBlock", fn := fun _ => fun
  | [d1, d2] => { results := [.lit (.bool true)], args := [d1, d2] }
  | _ => none }
def digestBlockRow : OpenClaim := { program := "ytjfohjfiaohfdaadoor", sum := "471147e5d7693017d84fe615dfbdfed21ca1c352c8652ef9eb280da7c07d9fb7", func := "portmanteau/portmanteaulaw03.DigestBlock", spec := "digestBlock", named := ["portmanteau/digest.table"], apart := false, laid := [("portmanteau/digest.table", laid_portmanteau_digest_table)] }
def DigestBlockSaid : Prop := digestBlockRow.holds Tryd.pinned (OpenSpec.ofChange digestBlockSpec)

/-- ITS FALSE NEIGHBOUR: 'it returns false'. Refute it at one input. -/
def digestBlockWrong : ChangeSpec := { name := "digestBlock", fn := fun _ => fun
  | [d1, d2] => { results := [.lit (.bool false)], args := [d1, d2] }
  | _ => none }
def DigestBlockWrongFalsely : Prop := digestBlockRow.holds Tryd.pinned (OpenSpec.ofChange digestBlockWrong)

/-- 'portmanteaulaw03.DigestPads': WHATEVER THE INPUT: true; the input reads as it did. -/
def digestPadsSpec : ChangeSpec := { name := "digestPads", fn := fun _ => fun
  | [d] => { results := [.lit (.bool true)], args := [d] }
  | _ => none }
def digestPadsRow : OpenClaim := { program := "ytjfohjfiaohfdaadoor", sum := "471147e5d7693017d84fe615dfbdfed21ca1c352c8652ef9eb280da7c07d9fb7", func := "portmanteau/portmanteaulaw03.DigestPads", spec := "digestPads", named := ["portmanteau/digest.table"], apart := false, laid := [("portmanteau/digest.table", laid_portmanteau_digest_table)] }
def DigestPadsSaid : Prop := digestPadsRow.holds Tryd.pinned (OpenSpec.ofChange digestPadsSpec)

/-- ITS FALSE NEIGHBOUR: 'it returns false'. Refute it at one input. -/
def digestPadsWrong : ChangeSpec := { name := "digestPads", fn := fun _ => fun
  | [d] => { results := [.lit (.bool false)], args := [d] }
  | _ => none }
def DigestPadsWrongFalsely : Prop := digestPadsRow.holds Tryd.pinned (OpenSpec.ofChange digestPadsWrong)

/-- 'portmanteaulaw03.DigestSteps': WHATEVER THE INPUT: true; the input reads as it did. -/
def digestStepsSpec : ChangeSpec := { name := "digestSteps", fn := fun _ => fun
  | [d] => { results := [.lit (.bool true)], args := [d] }
  | _ => none }
def digestStepsRow : OpenClaim := { program := "ytjfohjfiaohfdaadoor", sum := "471147e5d7693017d84fe615dfbdfed21ca1c352c8652ef9eb280da7c07d9fb7", func := "portmanteau/portmanteaulaw03.DigestSteps", spec := "digestSteps", named := ["portmanteau/digest.table"], apart := false, laid := [("portmanteau/digest.table", laid_portmanteau_digest_table)] }
def DigestStepsSaid : Prop := digestStepsRow.holds Tryd.pinned (OpenSpec.ofChange digestStepsSpec)

/-- ITS FALSE NEIGHBOUR: 'it returns false'. Refute it at one input. -/
def digestStepsWrong : ChangeSpec := { name := "digestSteps", fn := fun _ => fun
  | [d] => { results := [.lit (.bool false)], args := [d] }
  | _ => none }
def DigestStepsWrongFalsely : Prop := digestStepsRow.holds Tryd.pinned (OpenSpec.ofChange digestStepsWrong)

/-- 'portmanteaulaw03.DigestGoesOn': WHATEVER THE INPUT: true; the input reads as it did. -/
def digestGoesOnSpec : ChangeSpec := { name := "digestGoesOn", fn := fun _ => fun
  | [d1, d2] => { results := [.lit (.bool true)], args := [d1, d2] }
  | _ => none }
def digestGoesOnRow : OpenClaim := { program := "ytjfohjfiaohfdaadoor", sum := "471147e5d7693017d84fe615dfbdfed21ca1c352c8652ef9eb280da7c07d9fb7", func := "portmanteau/portmanteaulaw03.DigestGoesOn", spec := "digestGoesOn", named := ["portmanteau/digest.table"], apart := false, laid := [("portmanteau/digest.table", laid_portmanteau_digest_table)] }
def DigestGoesOnSaid : Prop := digestGoesOnRow.holds Tryd.pinned (OpenSpec.ofChange digestGoesOnSpec)

/-- ITS FALSE NEIGHBOUR: 'it returns false'. Refute it at one input. -/
def digestGoesOnWrong : ChangeSpec := { name := "digestGoesOn", fn := fun _ => fun
  | [d1, d2] => { results := [.lit (.bool false)], args := [d1, d2] }
  | _ => none }
def DigestGoesOnWrongFalsely : Prop := digestGoesOnRow.holds Tryd.pinned (OpenSpec.ofChange digestGoesOnWrong)

/- THE SECOND FORM. 'bulk': how many values and letters a reading holds, each counted each time it is reached (what is shared counts as often as it is met; a slice's spare places count too). A statement '..UptoSaid' is the law's where the arguments, and the package variables that the reading takes, are together of bulk at most 1048576: NARROWER than '..Said'. Prove '..Said' where nothing that the law and all that it calls make is longer than what came in: it says more and counts as full. Else prove '..UptoSaid'. A law counts once. -/
mutual
def uptoBulk {H : Type} : DataW H → Nat
  | .lit (.string bytes) => bytes.length + 1
  | .lit _ => 1
  | .nil => 1
  | .ptr d => uptoBulk d + 1
  | .slice elems spare => uptoBulkAll elems + uptoBulkAll spare + 1
  | .agg parts => uptoBulkAll parts + 1
  | .iface _ d => uptoBulk d + 1
  | .map entries => uptoBulkEntries entries + 1
  | .held _ => 1
def uptoBulkAll {H : Type} : List (DataW H) → Nat
  | [] => 0
  | d :: r => uptoBulk d + uptoBulkAll r
def uptoBulkEntries {H : Type} : List (Lit × DataW H) → Nat
  | [] => 0
  | x :: r => uptoBulkEntry x + uptoBulkEntries r
def uptoBulkEntry {H : Type} : Lit × DataW H → Nat
  | (.string bytes, d) => bytes.length + uptoBulk d + 1
  | (_, d) => uptoBulk d + 1
 end
def uptoSmall : (H : Type) → List (DataW H) → Bool := fun _ ds => decide (uptoBulkAll ds ≤ 1048576)
def OpenSpec.upto (s : _root_.Go.ChangeSpec) : _root_.Go.OpenSpec := { _root_.Go.OpenSpec.ofChange s with cond := some uptoSmall }

/-- 'portmanteaulaw03.DigestOf', WHERE WHAT IT READS IS OF BULK AT MOST 1048576: true; the input reads as it did. -/
def digestOfUptoRow : OpenClaim := { program := "ytjfohjfiaohfdaadoor", sum := "471147e5d7693017d84fe615dfbdfed21ca1c352c8652ef9eb280da7c07d9fb7", func := "portmanteau/portmanteaulaw03.DigestOf", spec := "digestOf", named := ["portmanteau/digest.table"], apart := false, laid := [("portmanteau/digest.table", laid_portmanteau_digest_table)], narrowed := true }
def DigestOfUptoSaid : Prop := digestOfUptoRow.holds Tryd.pinned (OpenSpec.upto digestOfSpec)

/-- 'portmanteaulaw03.DigestParts', WHERE WHAT IT READS IS OF BULK AT MOST 1048576: true; the input reads as it did. -/
def digestPartsUptoRow : OpenClaim := { program := "ytjfohjfiaohfdaadoor", sum := "471147e5d7693017d84fe615dfbdfed21ca1c352c8652ef9eb280da7c07d9fb7", func := "portmanteau/portmanteaulaw03.DigestParts", spec := "digestParts", named := ["portmanteau/digest.table"], apart := false, laid := [("portmanteau/digest.table", laid_portmanteau_digest_table)], narrowed := true }
def DigestPartsUptoSaid : Prop := digestPartsUptoRow.holds Tryd.pinned (OpenSpec.upto digestPartsSpec)

/-- 'portmanteaulaw03.DigestBlock', WHERE WHAT IT READS IS OF BULK AT MOST 1048576: true; the input reads as it did. -/
def digestBlockUptoRow : OpenClaim := { program := "ytjfohjfiaohfdaadoor", sum := "471147e5d7693017d84fe615dfbdfed21ca1c352c8652ef9eb280da7c07d9fb7", func := "portmanteau/portmanteaulaw03.DigestBlock", spec := "digestBlock", named := ["portmanteau/digest.table"], apart := false, laid := [("portmanteau/digest.table", laid_portmanteau_digest_table)], narrowed := true }
def DigestBlockUptoSaid : Prop := digestBlockUptoRow.holds Tryd.pinned (OpenSpec.upto digestBlockSpec)

/-- 'portmanteaulaw03.DigestPads', WHERE WHAT IT READS IS OF BULK AT MOST 1048576: true; the input reads as it did. -/
def digestPadsUptoRow : OpenClaim := { program := "ytjfohjfiaohfdaadoor", sum := "471147e5d7693017d84fe615dfbdfed21ca1c352c8652ef9eb280da7c07d9fb7", func := "portmanteau/portmanteaulaw03.DigestPads", spec := "digestPads", named := ["portmanteau/digest.table"], apart := false, laid := [("portmanteau/digest.table", laid_portmanteau_digest_table)], narrowed := true }
def DigestPadsUptoSaid : Prop := digestPadsUptoRow.holds Tryd.pinned (OpenSpec.upto digestPadsSpec)

/-- 'portmanteaulaw03.DigestSteps', WHERE WHAT IT READS IS OF BULK AT MOST 1048576: true; the input reads as it did. -/
def digestStepsUptoRow : OpenClaim := { program := "ytjfohjfiaohfdaadoor", sum := "471147e5d7693017d84fe615dfbdfed21ca1c352c8652ef9eb280da7c07d9fb7", func := "portmanteau/portmanteaulaw03.DigestSteps", spec := "digestSteps", named := ["portmanteau/digest.table"], apart := false, laid := [("portmanteau/digest.table", laid_portmanteau_digest_table)], narrowed := true }
def DigestStepsUptoSaid : Prop := digestStepsUptoRow.holds Tryd.pinned (OpenSpec.upto digestStepsSpec)

/-- 'portmanteaulaw03.DigestGoesOn', WHERE WHAT IT READS IS OF BULK AT MOST 1048576: true; the input reads as it did. -/
def digestGoesOnUptoRow : OpenClaim := { program := "ytjfohjfiaohfdaadoor", sum := "471147e5d7693017d84fe615dfbdfed21ca1c352c8652ef9eb280da7c07d9fb7", func := "portmanteau/portmanteaulaw03.DigestGoesOn", spec := "digestGoesOn", named := ["portmanteau/digest.table"], apart := false, laid := [("portmanteau/digest.table", laid_portmanteau_digest_table)], narrowed := true }
def DigestGoesOnUptoSaid : Prop := digestGoesOnUptoRow.holds Tryd.pinned (OpenSpec.upto digestGoesOnSpec)

end Rows
end Go.Proofs.YtjfohjfiaohfdaaDoor
