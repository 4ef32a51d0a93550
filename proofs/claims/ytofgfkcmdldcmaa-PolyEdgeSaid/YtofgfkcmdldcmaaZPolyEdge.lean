/- PROVED: whatever arguments it is handed (as the given row reads them), the Go function PolyEdge returns true and leaves its arguments as they were. -/
import Derived.Test.YtofgfkcmdldcmaaW3
import Derived.Test.YtofgfkcmdldcmaaRows
import Derived.Stop.Joined
namespace Go.Proofs.Ytofgfkcmdldcmaa
open Go Go.Sk Go.RowKit Go.ChangeShapes Go.WideShapes Go.ChangeAt
theorem own : ownKnob Try.prog.godebug = none := by kernel_rfl
theorem laidOut : laidOutB Try.prog = true := by kernel_rfl
theorem reads : (Try.f8.params.toList.all fun t => Try.prog.readableRec t && Nat.blt t Try.prog.types.size) = true := by kernel_rfl
theorem shapes : Try.f8.params.toList.map (shOf Try.prog 8) = ([.nums 16 .u8, .int .u8] : List Sh).map some := by kernel_rfl
set_option maxRecDepth 100000 in
theorem lifted (os : Os) (started : os.Started) (H : Type) (enc : TypeId × Value → H) :
    ReturnsInHanded {} Try.checked os 8 .any (Rows.polyEdgeSpec.pre6 enc Try.prog Try.f8 Rows.polyEdgeRow.domain false) (Rows.polyEdgeSpec.post enc Try.prog Try.f8 false true false false) := by
  refine returnsInHanded_of_change (C := Try.checked) own started (by kernel_rfl) Try.func8
    (ChangeSpec.witness6 (enc := enc) (C := Try.checked) false ⟨#[], #[.agg #[.int .u8 0, .int .u8 0, .int .u8 0, .int .u8 0, .int .u8 0, .int .u8 0, .int .u8 0, .int .u8 0, .int .u8 0, .int .u8 0, .int .u8 0, .int .u8 0, .int .u8 0, .int .u8 0, .int .u8 0, .int .u8 0], .int .u8 0], []⟩ 8 (by kernel_rfl) (by kernel_rfl) (by kernel_rfl) (by kernel_rfl)) ?_
  intro W base args ds gs before hval hW _ _
  refine calls_law laidOut (read_of reads) rfl (by kernel_rfl) Try.underlying4 shapes (fun ds hds => ?_) hval hW (fun avs ha hk => ?_)
  · have hn : ds.length = 2 := hds
    match ds, hn with
    | [_, _], _ => rfl
  · obtain ⟨v0, q0, rfl, a0, b0⟩ := ha
    obtain ⟨v1, q1, rfl, a1, rfl⟩ := b0
    obtain ⟨w0, rfl, l0, h0⟩ := arg_arr8 a0
    obtain ⟨w1, rfl, h1⟩ := arg_int a1
    exact ⟨_, gok_nil, law_PolyEdge w0 w1 l0 h0 (u8_wf h1)⟩

theorem row_holds : Rows.PolyEdgeSaid :=
  OpenClaim.holds_of_wide 8 Try.f8 rfl rfl rfl rfl rfl rfl rfl ⟨rfl, rfl, rfl, rfl, rfl⟩ rfl rfl rfl rfl rfl (by kernel_rfl) Try.func8 (by kernel_rfl)
    (of_decide_eq_true (by kernel_rfl)) (by unfold Func.isWrapper; first | (rw [if_pos (by decide +kernel)]; kernel_rfl) | (rw [if_neg (by decide +kernel)]; exact ⟨rfl, rfl⟩))
    (fun os started H enc _ => lifted os started H enc)
#print axioms row_holds
end Go.Proofs.Ytofgfkcmdldcmaa
