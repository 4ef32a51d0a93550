/- PROVED: whatever arguments it is handed (as the given row reads them), the Go function PolyClears returns true and leaves its arguments as they were. -/
import Derived.Test.YtofgfkcmdldcmaaW3
import Derived.Test.YtofgfkcmdldcmaaRows
import Derived.Stop.Joined
namespace Go.Proofs.Ytofgfkcmdldcmaa
open Go Go.Sk Go.RowKit Go.ChangeShapes Go.WideShapes Go.ChangeAt
theorem own : ownKnob Try.prog.godebug = none := by kernel_rfl
theorem laidOut : laidOutB Try.prog = true := by kernel_rfl
theorem reads : (Try.f9.params.toList.all fun t => Try.prog.readableRec t && Nat.blt t Try.prog.types.size) = true := by kernel_rfl
theorem shapes : Try.f9.params.toList.map (shOf Try.prog 8) = ([.nums 32 .u8, .sl 1 (.int .u8), .nums 16 .u8] : List Sh).map some := by kernel_rfl
set_option maxRecDepth 100000 in
theorem lifted (os : Os) (started : os.Started) (H : Type) (enc : TypeId × Value → H) :
    ReturnsInHanded {} Try.checked os 9 .any (Rows.polyClearsSpec.pre6 enc Try.prog Try.f9 Rows.polyClearsRow.domain false) (Rows.polyClearsSpec.post enc Try.prog Try.f9 false true false false) := by
  refine returnsInHanded_of_change (C := Try.checked) own started (by kernel_rfl) Try.func9
    (ChangeSpec.witness6 (enc := enc) (C := Try.checked) false ⟨#[], #[.agg #[.int .u8 0, .int .u8 0, .int .u8 0, .int .u8 0, .int .u8 0, .int .u8 0, .int .u8 0, .int .u8 0, .int .u8 0, .int .u8 0, .int .u8 0, .int .u8 0, .int .u8 0, .int .u8 0, .int .u8 0, .int .u8 0, .int .u8 0, .int .u8 0, .int .u8 0, .int .u8 0, .int .u8 0, .int .u8 0, .int .u8 0, .int .u8 0, .int .u8 0, .int .u8 0, .int .u8 0, .int .u8 0, .int .u8 0, .int .u8 0, .int .u8 0, .int .u8 0], .slice none 0 0, .agg #[.int .u8 0, .int .u8 0, .int .u8 0, .int .u8 0, .int .u8 0, .int .u8 0, .int .u8 0, .int .u8 0, .int .u8 0, .int .u8 0, .int .u8 0, .int .u8 0, .int .u8 0, .int .u8 0, .int .u8 0, .int .u8 0]], []⟩ 8 (by kernel_rfl) (by kernel_rfl) (by kernel_rfl) (by kernel_rfl)) ?_
  intro W base args ds gs before hval hW _ _
  refine calls_law laidOut (read_of reads) rfl (by kernel_rfl) Try.underlying4 shapes (fun ds hds => ?_) hval hW (fun avs ha hk => ?_)
  · have hn : ds.length = 3 := hds
    match ds, hn with
    | [_, _, _], _ => rfl
  · obtain ⟨v0, q0, rfl, a0, b0⟩ := ha
    obtain ⟨v1, q1, rfl, a1, b1⟩ := b0
    obtain ⟨v2, q2, rfl, a2, rfl⟩ := b1
    obtain ⟨w0, rfl, l0, h0⟩ := arg_arr8 a0
    obtain ⟨w1, rfl, l1, h1⟩ := arg_bytes a1
    obtain ⟨w2, rfl, l2, h2⟩ := arg_arr8 a2
    exact ⟨_, gok_nil, law_PolyClears w0 w1 w2 l0 h0 h1 l2 h2⟩

theorem row_holds : Rows.PolyClearsSaid :=
  OpenClaim.holds_of_wide 9 Try.f9 rfl rfl rfl rfl rfl rfl rfl ⟨rfl, rfl, rfl, rfl, rfl⟩ rfl rfl rfl rfl rfl (by kernel_rfl) Try.func9 (by kernel_rfl)
    (of_decide_eq_true (by kernel_rfl)) (by unfold Func.isWrapper; first | (rw [if_pos (by decide +kernel)]; kernel_rfl) | (rw [if_neg (by decide +kernel)]; exact ⟨rfl, rfl⟩))
    (fun os started H enc _ => lifted os started H enc)
#print axioms row_holds
end Go.Proofs.Ytofgfkcmdldcmaa
