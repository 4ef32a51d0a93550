/- PROVED: whatever arguments it is handed (as the given row reads them), the Go function AeadText returns true and leaves its arguments as they were. -/
import Derived.Test.YtppbepekbanljaaW6
import Derived.Test.YtppbepekbanljaaRows
import Derived.Stop.Joined
namespace Go.Proofs.Ytppbepekbanljaa
open Go Go.Sk Go.RowKit Go.ChangeShapes Go.WideShapes Go.ChangeAt
theorem own : ownKnob Try.prog.godebug = none := by kernel_rfl
theorem laidOut : laidOutB Try.prog = true := by kernel_rfl
theorem reads : (Try.f7.params.toList.all fun t => Try.prog.readableRec t && Nat.blt t Try.prog.types.size) = true := by kernel_rfl
theorem shapes : Try.f7.params.toList.map (shOf Try.prog 8) = ([.nums 32 .u8, .nums 12 .u8, .sl 1 (.int .u8), .sl 1 (.int .u8)] : List Sh).map some := by kernel_rfl
set_option maxRecDepth 100000 in
theorem lifted (os : Os) (started : os.Started) (H : Type) (enc : TypeId × Value → H) :
    ReturnsInHanded {} Try.checked os 7 .any (Rows.aeadTextSpec.pre6 enc Try.prog Try.f7 Rows.aeadTextRow.domain false) (Rows.aeadTextSpec.post enc Try.prog Try.f7 false true false false) := by
  refine returnsInHanded_of_change (C := Try.checked) own started (by kernel_rfl) Try.func7
    (ChangeSpec.witness6 (enc := enc) (C := Try.checked) false ⟨#[], #[.agg #[.int .u8 0, .int .u8 0, .int .u8 0, .int .u8 0, .int .u8 0, .int .u8 0, .int .u8 0, .int .u8 0, .int .u8 0, .int .u8 0, .int .u8 0, .int .u8 0, .int .u8 0, .int .u8 0, .int .u8 0, .int .u8 0, .int .u8 0, .int .u8 0, .int .u8 0, .int .u8 0, .int .u8 0, .int .u8 0, .int .u8 0, .int .u8 0, .int .u8 0, .int .u8 0, .int .u8 0, .int .u8 0, .int .u8 0, .int .u8 0, .int .u8 0, .int .u8 0], .agg #[.int .u8 0, .int .u8 0, .int .u8 0, .int .u8 0, .int .u8 0, .int .u8 0, .int .u8 0, .int .u8 0, .int .u8 0, .int .u8 0, .int .u8 0, .int .u8 0], .slice none 0 0, .slice none 0 0], []⟩ 8 (by kernel_rfl) (by kernel_rfl) (by kernel_rfl) (by kernel_rfl)) ?_
  intro W base args ds gs before hval hW _ _
  refine calls_law laidOut (read_of reads) rfl (by kernel_rfl) Try.underlying4 shapes (fun ds hds => ?_) hval hW (fun avs ha hk => ?_)
  · have hn : ds.length = 4 := hds
    match ds, hn with
    | [_, _, _, _], _ => rfl
  · obtain ⟨v0, q0, rfl, a0, b0⟩ := ha
    obtain ⟨v1, q1, rfl, a1, b1⟩ := b0
    obtain ⟨v2, q2, rfl, a2, b2⟩ := b1
    obtain ⟨v3, q3, rfl, a3, rfl⟩ := b2
    obtain ⟨w0, rfl, l0, h0⟩ := arg_arr8 a0
    obtain ⟨w1, rfl, l1, h1⟩ := arg_arr8 a1
    obtain ⟨w2, rfl, l2, h2⟩ := arg_bytes a2
    obtain ⟨w3, rfl, l3, h3⟩ := arg_bytes a3
    exact ⟨_, gok_nil, law_AeadText w0 w1 w2 w3 l0 l1 h0 h1 h2 h3⟩

theorem row_holds : Rows.AeadTextSaid :=
  OpenClaim.holds_of_wide 7 Try.f7 rfl rfl rfl rfl rfl rfl rfl ⟨rfl, rfl, rfl, rfl, rfl⟩ rfl rfl rfl rfl rfl (by kernel_rfl) Try.func7 (by kernel_rfl)
    (of_decide_eq_true (by kernel_rfl)) (by unfold Func.isWrapper; first | (rw [if_pos (by decide +kernel)]; kernel_rfl) | (rw [if_neg (by decide +kernel)]; exact ⟨rfl, rfl⟩))
    (fun os started H enc _ => lifted os started H enc)
#print axioms row_holds
end Go.Proofs.Ytppbepekbanljaa
