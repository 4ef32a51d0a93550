/- Own work, printed by a program of this claim: walks through functions of the program. -/
import Derived.Test.YtpmakaccokidbaaW2
import Derived.Test.YtpmakaccokidbaaProg
import Derived.KernelRfl
set_option linter.unusedSimpArgs false
set_option linter.unusedVariables false
namespace Go.Proofs.Ytpmakaccokidbaa
open Go.Sk Go.RowKit
attribute [local simp] AV.inSL AV.inS inSL_I Blk.inS Blk.cs AV.novs AV.novsL novsL_I AV.ren AV.cells AV.one lk tuAV
theorem bld_29 : bldOK Try.prog 29 = true := by kernel_rfl
theorem bld_30 : bldOK Try.prog 30 = true := by kernel_rfl
theorem bytes_31 : (Try.prog.info? 31).map (·.bytes) = some 64 := by kernel_rfl
theorem cells_31 : Try.prog.cellsOf 31 = 64 := by kernel_rfl
theorem eg_31 : Try.prog.eqGuardType Try.prog.depth 31 = false := by kernel_rfl
theorem idx_42 : idx Try.prog 42 = some (none, 64) := by kernel_rfl
theorem kt_31 : Try.prog.keyTypeAt 8 31 = true := by kernel_rfl
theorem sg_31 : shp Try.prog 31 = some (true, Try.prog.cellsOf 31) := by kernel_rfl
theorem sh_31 : shOf Try.prog 8 31 = some (.nums 64 .u8) := by kernel_rfl
theorem shp_4 : shp Try.prog 4 = some (false, 1) := by kernel_rfl
theorem shp_42 : shp Try.prog 42 = some (false, 1) := by kernel_rfl
theorem zero_29 : zeroAV Try.prog 29 = some (I .u8 (List.replicate 32 0)) := by kernel_rfl
theorem zero_30 : zeroAV Try.prog 30 = some (I .u8 (List.replicate 12 0)) := by kernel_rfl
theorem zero_4 : zeroAV Try.prog 4 = some [.b false] := by kernel_rfl
theorem zero_42 : zeroAV Try.prog 42 = some [.nils] := by kernel_rfl

set_option maxRecDepth 20000 in
set_option maxHeartbeats 4000000 in
theorem awake05_c  : FnC Try.prog 12 [] [] [] [] (.b true) := by
  refine FnC.introR (N0 := 0) (T := 33) (E := []) Try.func12 rfl (by decide) mix rfl rfl rfl (by simp) rfl trivial (by simp) (by intro S _ _ h; simp) (fun F n0 X w ρ hC hro => ?_)
  refine W_seq ?_
  refine W_region ?_
  refine WL_cons hC.fn (.plain rfl (oc_assign hC .cbool rfl rfl)) ?_
  refine WL_nil ?_
  refine W_seq ?_
  refine W_region ?_
  refine WL_cons hC.fn (.plain rfl (oc_call hC (.cons .cint (.cons .cint (.cons .cint (.cons .cint .nil)))) (.cons1 (.free (by first | exact inSL_I _ | simp)) (.cons1 (.free (by first | exact inSL_I _ | simp)) (.cons1 (.free (by first | exact inSL_I _ | simp)) (.cons1 (.free (by first | exact inSL_I _ | simp)) (.same (by first | exact inSL_I _ | simp)))))) (quarter_c _ _ _ _) glob_nil (by first | exact inSL_I _ | simp) (by first | exact .inl rfl | exact .inr (by simp)) rfl rfl)) ?_
  refine WL_cons hC.fn (.plain rfl (oc_move hC (.tmp rfl) rfl rfl)) ?_
  refine WL_cons hC.fn (.plain rfl (oc_extract hC (.tmp rfl) rfl rfl rfl)) ?_
  refine WL_cons hC.fn (.plain rfl (oc_extract hC (.tmp rfl) rfl rfl rfl)) ?_
  refine WL_cons hC.fn (.plain rfl (oc_extract hC (.tmp rfl) rfl rfl rfl)) ?_
  refine WL_cons hC.fn (.plain rfl (oc_extract hC (.tmp rfl) rfl rfl rfl)) ?_
  refine WL_cons hC.fn (.plain rfl (oc_assign hC (.tmp rfl) rfl rfl)) ?_
  refine WL_cons hC.fn (.plain rfl (oc_assign hC (.tmp rfl) rfl rfl)) ?_
  refine WL_cons hC.fn (.plain rfl (oc_assign hC (.tmp rfl) rfl rfl)) ?_
  refine WL_cons hC.fn (.plain rfl (oc_assign hC (.tmp rfl) rfl rfl)) ?_
  refine WL_nil ?_
  refine W_seq ?_
  refine W_region ?_
  refine WL_cons hC.fn (.plain rfl (oc_move hC (.tmp rfl) rfl rfl)) ?_
  refine WL_cons hC.fn (.plain rfl (ox_cmp hC rfl (.tmp rfl) .cint (r := true) (by decide +kernel) rfl rfl)) ?_
  refine WL_cons hC.fn (.plain rfl (oc_move hC (.tmp rfl) rfl rfl)) ?_
  refine WL_cons hC.fn (.yes rfl rfl (by decide) rfl (oc_move hC (.tmp rfl) rfl rfl)) ?_
  refine WL_cons hC.fn (.yes rfl rfl (by decide) rfl (ox_cmp hC rfl (.tmp rfl) .cint (r := true) (by decide +kernel) rfl rfl)) ?_
  refine WL_cons hC.fn (.plain rfl (ox_pick hC (.tmp rfl) (.tmp rfl) .cbool (by first | exact pick_t | exact pick_f | rfl) rfl rfl)) ?_
  refine WL_cons hC.fn (.plain rfl (oc_move hC (.tmp rfl) rfl rfl)) ?_
  refine WL_cons hC.fn (.yes rfl rfl (by decide) rfl (oc_move hC (.tmp rfl) rfl rfl)) ?_
  refine WL_cons hC.fn (.yes rfl rfl (by decide) rfl (ox_cmp hC rfl (.tmp rfl) .cint (r := true) (by decide +kernel) rfl rfl)) ?_
  refine WL_cons hC.fn (.plain rfl (ox_pick hC (.tmp rfl) (.tmp rfl) .cbool (by first | exact pick_t | exact pick_f | rfl) rfl rfl)) ?_
  refine WL_cons hC.fn (.plain rfl (oc_move hC (.tmp rfl) rfl rfl)) ?_
  refine WL_cons hC.fn (.yes rfl rfl (by decide) rfl (oc_move hC (.tmp rfl) rfl rfl)) ?_
  refine WL_cons hC.fn (.yes rfl rfl (by decide) rfl (ox_cmp hC rfl (.tmp rfl) .cint (r := true) (by decide +kernel) rfl rfl)) ?_
  refine WL_cons hC.fn (.plain rfl (ox_pick hC (.tmp rfl) (.tmp rfl) .cbool (by first | exact pick_t | exact pick_f | rfl) rfl rfl)) ?_
  refine WL_cons hC.fn (.plain rfl (oc_move hC (.tmp rfl) rfl rfl)) ?_
  refine WL_cons hC.fn (.yes rfl rfl (by decide) rfl (ox_build (out' := I .u8 (List.replicate 32 0)) hC .nil zero_29 bld_29 rfl rfl rfl rfl)) ?_
  refine WL_cons hC.fn (.yes rfl rfl (by decide) rfl (ox_build (out' := I .u8 (List.replicate 12 0)) hC .nil zero_30 bld_30 rfl rfl rfl rfl)) ?_
  refine WL_cons hC.fn (.yes rfl rfl (by decide) rfl (ox_make (n := 65) (cs' := I .u8 (List.replicate 65 0)) hC .cint .cint (by first | rfl | omega) (by first | rfl | omega) Try.underlying33 cells_5 bytes_5 zero_5 (by decide) (by simp only [maxLen]; omega) (by omega) (by first | exact zeros_I | rfl) rfl rfl)) ?_
  refine WL_cons hC.fn (.yes rfl rfl (by decide) rfl (oc_callN hC (.cons (.tmp rfl) (.cons .cint (.cons (.tmp rfl) (.cons (.tmp rfl) .nil)))) (.cons1 (.free (by first | exact inSL_I _ | simp)) (.cons1 (.free (by first | exact inSL_I _ | simp)) (.cons1 (.free (by first | exact inSL_I _ | simp)) (.cons1 (by first | exact .free (by first | exact inSL_I _ | simp) | exact .row rfl rfl (by first | exact inSL_I _ | simp) | exact .nils | exact .sl1 rfl (by first | exact cut_I | rfl) (by first | exact inSL_I _ | simp)) (.same (by first | exact inSL_I _ | simp)))))) (xor_c 65 (List.replicate 65 0) (List.replicate 32 0) (List.replicate 12 0) 0 rfl rfl (B8_zeros _) (B8_zeros _) (by decide) rfl (B8_zeros _) (by decide)) glob_nil (by first | exact inSL_I _ | simp) rfl (by first | exact .inl rfl | exact .inr ⟨by simp, novsL_I _⟩ | exact .inr ⟨by simp, by simp⟩) rfl rfl)) ?_
  refine WL_cons hC.fn (.yes rfl rfl (by decide) rfl (ox_len hC (.tmp rfl) (by first | exact .row rfl | exact .vs | exact .sl rfl | exact .nils) Try.underlying33 rfl rfl rfl)) ?_
  refine WL_cons hC.fn (.yes rfl rfl (by decide) rfl (ox_cmp hC rfl (.tmp rfl) .cint (r := true) (by decide) rfl rfl)) ?_
  refine WL_cons hC.fn (.plain rfl (ox_pick hC (.tmp rfl) (.tmp rfl) .cbool (by first | exact pick_t | exact pick_f | rfl) rfl rfl)) ?_
  refine WL_cons hC.fn (.plain rfl (oc_assign hC (.tmp rfl) rfl rfl)) ?_
  refine WL_nil ?_
  refine W_ret ?_
  exact fin0 (.cons (.tmp rfl) .nil) rfl (by first | exact inSL_I _ | simp)
set_option maxRecDepth 20000 in
set_option maxHeartbeats 4000000 in
theorem law_StreamQuarters (a b c d : Int) (ha : 0 ≤ a ∧ a < 4294967296) (hb : 0 ≤ b ∧ b < 4294967296) (hc : 0 ≤ c ∧ c < 4294967296) (hd : 0 ≤ d ∧ d < 4294967296) : FnC Try.prog 3 [] [.i .u32 a, .i .u32 b, .i .u32 c, .i .u32 d] [] [] (.b true) := by
  have r5 := qa_range a b c d
  have r6 := qd_range a b c d
  have r7 := qc_range a b c d
  have r8 := qb_range a b c d
  have hW : W32 [a, b, c, d] := by
    intro x hx
    simp only [List.mem_cons, List.not_mem_nil, or_false] at hx
    rcases hx with rfl | rfl | rfl | rfl <;> assumption
  refine FnC.introR (N0 := 0) (T := 67) (E := [(0, .i .u32 a), (1, .i .u32 b), (2, .i .u32 c), (3, .i .u32 d)]) Try.func3 rfl (by decide) mix rfl rfl rfl (by simp) rfl ⟨(by first | exact inSL_I _ | trivial | simp), (by first | exact inSL_I _ | trivial | simp), (by first | exact inSL_I _ | trivial | simp), (by first | exact inSL_I _ | trivial | simp), trivial⟩ (by simp) (by intro S _ _ h; simp) (fun F n0 X w ρ hC hro => ?_)
  refine W_seq ?_
  refine W_region ?_
  refine WL_cons hC.fn (.plain rfl (oc_assign hC .cbool rfl rfl)) ?_
  refine WL_nil ?_
  refine W_seq ?_
  refine W_region ?_
  refine WL_cons hC.fn (.plain rfl (oc_move hC (.tmp rfl) rfl rfl)) ?_
  refine WL_cons hC.fn (.plain rfl (oc_move hC (.tmp rfl) rfl rfl)) ?_
  refine WL_cons hC.fn (.plain rfl (oc_move hC (.tmp rfl) rfl rfl)) ?_
  refine WL_cons hC.fn (.plain rfl (oc_move hC (.tmp rfl) rfl rfl)) ?_
  refine WL_cons hC.fn (.plain rfl (oc_call hC (.cons (.tmp rfl) (.cons (.tmp rfl) (.cons (.tmp rfl) (.cons (.tmp rfl) .nil)))) (.cons1 (.free (by first | exact inSL_I _ | simp)) (.cons1 (.free (by first | exact inSL_I _ | simp)) (.cons1 (.free (by first | exact inSL_I _ | simp)) (.cons1 (.free (by first | exact inSL_I _ | simp)) (.same (by first | exact inSL_I _ | simp)))))) (quarter_c _ _ _ _) glob_nil (by first | exact inSL_I _ | simp) (by first | exact .inl rfl | exact .inr (by simp)) rfl rfl)) ?_
  refine WL_cons hC.fn (.plain rfl (oc_move hC (.tmp rfl) rfl rfl)) ?_
  refine WL_cons hC.fn (.plain rfl (oc_extract hC (.tmp rfl) rfl rfl rfl)) ?_
  refine WL_cons hC.fn (.plain rfl (oc_extract hC (.tmp rfl) rfl rfl rfl)) ?_
  refine WL_cons hC.fn (.plain rfl (oc_extract hC (.tmp rfl) rfl rfl rfl)) ?_
  refine WL_cons hC.fn (.plain rfl (oc_extract hC (.tmp rfl) rfl rfl rfl)) ?_
  refine WL_cons hC.fn (.plain rfl (oc_assign hC (.tmp rfl) rfl rfl)) ?_
  refine WL_cons hC.fn (.plain rfl (oc_assign hC (.tmp rfl) rfl rfl)) ?_
  refine WL_cons hC.fn (.plain rfl (oc_assign hC (.tmp rfl) rfl rfl)) ?_
  refine WL_cons hC.fn (.plain rfl (oc_assign hC (.tmp rfl) rfl rfl)) ?_
  refine WL_nil ?_
  refine W_seq ?_
  refine W_region ?_
  refine WL_cons hC.fn (.plain rfl (oc_move hC (.tmp rfl) rfl rfl)) ?_
  refine WL_cons hC.fn (.plain rfl (oc_conv hC (.tmp rfl) rfl Try.underlying3 (by first | exact i64_conv (by omega) | rfl) rfl rfl)) ?_
  refine WL_cons hC.fn (.plain rfl (oc_move hC (.tmp rfl) rfl rfl)) ?_
  refine WL_cons hC.fn (.plain rfl (oc_conv hC (.tmp rfl) rfl Try.underlying3 (by first | exact i64_conv (by omega) | rfl) rfl rfl)) ?_
  refine WL_cons hC.fn (.plain rfl (oc_move hC (.tmp rfl) rfl rfl)) ?_
  refine WL_cons hC.fn (.plain rfl (oc_conv hC (.tmp rfl) rfl Try.underlying3 (by first | exact i64_conv (by omega) | rfl) rfl rfl)) ?_
  refine WL_cons hC.fn (.plain rfl (oc_move hC (.tmp rfl) rfl rfl)) ?_
  refine WL_cons hC.fn (.plain rfl (oc_conv hC (.tmp rfl) rfl Try.underlying3 (by first | exact i64_conv (by omega) | rfl) rfl rfl)) ?_
  refine WL_cons hC.fn (.plain rfl (ox_lit hC (.cons (.tmp rfl) (.cons (.tmp rfl) (.cons (.tmp rfl) (.cons (.tmp rfl) .nil)))) Try.underlying25 cells_3 zero_3 rfl (by decide) rfl rfl (by first | rfl | simp) rfl rfl)) ?_
  refine WL_cons hC.fn (.plain rfl (oc_callN hC (.cons (.tmp rfl) (.cons .cint (.cons .cint (.cons .cint (.cons .cint .nil))))) (.cons1 (by first | exact .free (by first | exact inSL_I _ | simp) | exact .row rfl rfl (by first | exact inSL_I _ | simp) | exact .nils | exact .sl1 rfl (by first | exact cut_I | rfl) (by first | exact inSL_I _ | simp)) (.cons1 (.free (by first | exact inSL_I _ | simp)) (.cons1 (.free (by first | exact inSL_I _ | simp)) (.cons1 (.free (by first | exact inSL_I _ | simp)) (.cons1 (.free (by first | exact inSL_I _ | simp)) (.same (by first | exact inSL_I _ | simp))))))) (rquarter_c 4 0 1 2 3 [a, b, c, d] rfl hW (by decide) (by decide) (by decide) (by decide) (by decide) (by decide) (by decide) (by decide) (by decide) (by decide) (by decide)) glob_nil (by first | exact inSL_I _ | simp) rfl (by first | exact .inl rfl | exact .inr ⟨by simp, novsL_I _⟩ | exact .inr ⟨by simp, by simp⟩) rfl rfl)) ?_
  rw [quarterL_4]
  refine WL_cons hC.fn (.plain rfl (oc_assign hC (.tmp rfl) rfl rfl)) ?_
  refine WL_nil ?_
  refine W_seq ?_
  refine W_region ?_
  refine WL_cons hC.fn (.plain rfl (oc_move hC (.tmp rfl) rfl rfl)) ?_
  refine WL_cons hC.fn (.plain rfl (oc_conv hC (.tmp rfl) rfl Try.underlying3 (by first | exact i64_conv (by omega) | rfl) rfl rfl)) ?_
  refine WL_cons hC.fn (.plain rfl (oc_move hC (.tmp rfl) rfl rfl)) ?_
  refine WL_cons hC.fn (.plain rfl (ox_indexS hC (j := 0) (.tmp rfl) .cint idx_25 rfl (by first | exact Nat.mul_one _ | rfl) (by first | exact .row rfl | exact .sl (Nat.zero_add _) | exact .sl rfl | exact .vs (by first | omega | (simp; omega))) (by first | omega | (simp; omega)) rfl rfl)) ?_
  refine WL_cons hC.fn (.plain rfl (oc_load hC (.tmp rfl) (by first | exact .p rfl | exact .rp) shp_3 (by exact (unit_I (by simp))) rfl rfl)) ?_
  refine WL_cons hC.fn (.plain rfl (ox_cmp hC rfl (.tmp rfl) (.tmp rfl) (r := true) (by simp [cmpI]) rfl rfl)) ?_
  refine WL_cons hC.fn (.plain rfl (oc_move hC (.tmp rfl) rfl rfl)) ?_
  refine WL_cons hC.fn (.yes rfl rfl (by decide) rfl (oc_move hC (.tmp rfl) rfl rfl)) ?_
  refine WL_cons hC.fn (.yes rfl rfl (by decide) rfl (oc_conv hC (.tmp rfl) rfl Try.underlying3 (by first | exact i64_conv (by omega) | rfl) rfl rfl)) ?_
  refine WL_cons hC.fn (.yes rfl rfl (by decide) rfl (oc_move hC (.tmp rfl) rfl rfl)) ?_
  refine WL_cons hC.fn (.yes rfl rfl (by decide) rfl (ox_indexS hC (j := 1) (.tmp rfl) .cint idx_25 rfl (by first | exact Nat.mul_one _ | rfl) (by first | exact .row rfl | exact .sl (Nat.zero_add _) | exact .sl rfl | exact .vs (by first | omega | (simp; omega))) (by first | omega | (simp; omega)) rfl rfl)) ?_
  refine WL_cons hC.fn (.yes rfl rfl (by decide) rfl (oc_load hC (.tmp rfl) (by first | exact .p rfl | exact .rp) shp_3 (by exact (unit_I (by simp))) rfl rfl)) ?_
  refine WL_cons hC.fn (.yes rfl rfl (by decide) rfl (ox_cmp hC rfl (.tmp rfl) (.tmp rfl) (r := true) (by simp [cmpI]) rfl rfl)) ?_
  refine WL_cons hC.fn (.plain rfl (ox_pick hC (.tmp rfl) (.tmp rfl) .cbool (by first | exact pick_t | exact pick_f | rfl) rfl rfl)) ?_
  refine WL_cons hC.fn (.plain rfl (oc_move hC (.tmp rfl) rfl rfl)) ?_
  refine WL_cons hC.fn (.yes rfl rfl (by decide) rfl (oc_move hC (.tmp rfl) rfl rfl)) ?_
  refine WL_cons hC.fn (.yes rfl rfl (by decide) rfl (oc_conv hC (.tmp rfl) rfl Try.underlying3 (by first | exact i64_conv (by omega) | rfl) rfl rfl)) ?_
  refine WL_cons hC.fn (.yes rfl rfl (by decide) rfl (oc_move hC (.tmp rfl) rfl rfl)) ?_
  refine WL_cons hC.fn (.yes rfl rfl (by decide) rfl (ox_indexS hC (j := 2) (.tmp rfl) .cint idx_25 rfl (by first | exact Nat.mul_one _ | rfl) (by first | exact .row rfl | exact .sl (Nat.zero_add _) | exact .sl rfl | exact .vs (by first | omega | (simp; omega))) (by first | omega | (simp; omega)) rfl rfl)) ?_
  refine WL_cons hC.fn (.yes rfl rfl (by decide) rfl (oc_load hC (.tmp rfl) (by first | exact .p rfl | exact .rp) shp_3 (by exact (unit_I (by simp))) rfl rfl)) ?_
  refine WL_cons hC.fn (.yes rfl rfl (by decide) rfl (ox_cmp hC rfl (.tmp rfl) (.tmp rfl) (r := true) (by simp [cmpI]) rfl rfl)) ?_
  refine WL_cons hC.fn (.plain rfl (ox_pick hC (.tmp rfl) (.tmp rfl) .cbool (by first | exact pick_t | exact pick_f | rfl) rfl rfl)) ?_
  refine WL_cons hC.fn (.plain rfl (oc_move hC (.tmp rfl) rfl rfl)) ?_
  refine WL_cons hC.fn (.yes rfl rfl (by decide) rfl (oc_move hC (.tmp rfl) rfl rfl)) ?_
  refine WL_cons hC.fn (.yes rfl rfl (by decide) rfl (oc_conv hC (.tmp rfl) rfl Try.underlying3 (by first | exact i64_conv (by omega) | rfl) rfl rfl)) ?_
  refine WL_cons hC.fn (.yes rfl rfl (by decide) rfl (oc_move hC (.tmp rfl) rfl rfl)) ?_
  refine WL_cons hC.fn (.yes rfl rfl (by decide) rfl (ox_indexS hC (j := 3) (.tmp rfl) .cint idx_25 rfl (by first | exact Nat.mul_one _ | rfl) (by first | exact .row rfl | exact .sl (Nat.zero_add _) | exact .sl rfl | exact .vs (by first | omega | (simp; omega))) (by first | omega | (simp; omega)) rfl rfl)) ?_
  refine WL_cons hC.fn (.yes rfl rfl (by decide) rfl (oc_load hC (.tmp rfl) (by first | exact .p rfl | exact .rp) shp_3 (by exact (unit_I (by simp))) rfl rfl)) ?_
  refine WL_cons hC.fn (.yes rfl rfl (by decide) rfl (ox_cmp hC rfl (.tmp rfl) (.tmp rfl) (r := true) (by simp [cmpI]) rfl rfl)) ?_
  refine WL_cons hC.fn (.plain rfl (ox_pick hC (.tmp rfl) (.tmp rfl) .cbool (by first | exact pick_t | exact pick_f | rfl) rfl rfl)) ?_
  refine WL_cons hC.fn (.plain rfl (oc_move hC (.tmp rfl) rfl rfl)) ?_
  refine WL_cons hC.fn (.yes rfl rfl (by decide) rfl (oc_call hC .nil (.same (by first | exact inSL_I _ | simp)) (awake05_c) glob_nil (by first | exact inSL_I _ | simp) (by first | exact .inl rfl | exact .inr (by simp)) rfl rfl)) ?_
  refine WL_cons hC.fn (.plain rfl (ox_pick hC (.tmp rfl) (.tmp rfl) .cbool (by first | exact pick_t | exact pick_f | rfl) rfl rfl)) ?_
  refine WL_cons hC.fn (.plain rfl (oc_assign hC (.tmp rfl) rfl rfl)) ?_
  refine WL_nil ?_
  refine W_ret ?_
  exact fin0 (.cons (.tmp rfl) .nil) rfl trivial
set_option maxRecDepth 20000 in
set_option maxHeartbeats 4000000 in
theorem law_StreamXors (nb : Nat) (b : List Int) (key nonce : List Int) (n : Int) (hk : key.length = 32) (hnc : nonce.length = 12) (hk8 : B8 key) (hc8 : B8 nonce) (hn : 0 ≤ n ∧ n < 4294967296) (hb : b.length = nb) (hb8 : B8 b) : FnC Try.prog 5 [] [.ag (I .u8 key), .i .u32 n, .ag (I .u8 nonce), .vs nb (I .u8 b)] [] [] (.b true) := by
  have hxl : (xorM key n nonce b).length = nb := length_xor.trans hb
  have hxx := xor_xor (key := key) (n := n) (nonce := nonce) hb8
  refine FnC.introR (N0 := 0) (T := 54) (E := [(0, .ag (I .u8 key)), (1, .i .u32 n), (2, .ag (I .u8 nonce)), (3, .vs nb (I .u8 b))]) Try.func5 rfl (by decide) mix rfl rfl rfl (by simp) rfl ⟨(by first | exact inSL_I _ | trivial | simp), (by first | exact inSL_I _ | trivial | simp), (by first | exact inSL_I _ | trivial | simp), (by first | exact inSL_I _ | trivial | simp), trivial⟩ (by simp) (by intro S _ _ h; simp) (fun F n0 X w ρ hC hro => ?_)
  refine W_seq ?_
  refine W_region ?_
  refine WL_cons hC.fn (.plain rfl (ox_box hC (.tmp rfl) (by first | rfl | exact flat_agI) (by first | exact cells_ag | rfl) rfl rfl)) ?_
  refine WL_cons hC.fn (.plain rfl (ox_box hC (.tmp rfl) (by first | rfl | exact flat_agI) (by first | exact cells_ag | rfl) rfl rfl)) ?_
  refine WL_cons hC.fn (.plain rfl (oc_assign hC .cbool rfl rfl)) ?_
  refine WL_nil ?_
  refine W_seq ?_
  refine W_seq ?_
  rcases (show 500 < nb ∨ nb ≤ 500 by omega) with h | h
  ·
    refine W_region ?_
    refine WL_cons hC.fn (.plain rfl (oc_move hC (.tmp rfl) rfl rfl)) ?_
    refine WL_cons hC.fn (.plain rfl (ox_len hC (.tmp rfl) (by first | exact .row rfl | exact .vs | exact .sl rfl | exact .nils) Try.underlying33 rfl rfl rfl)) ?_
    refine WL_cons hC.fn (.plain rfl (ox_cmp hC rfl (.tmp rfl) .cint (r := true) (by simp only [cmpI]; exact decide_eq_true (by omega)) rfl rfl)) ?_
    refine WL_nil ?_
    refine W_cond rfl (by decide) (fun _ => ?_) (fun hc => by cases hc)
    refine W_seq ?_
    refine W_region ?_
    refine WL_cons hC.fn (.plain rfl (oc_call hC .nil (.same (by first | exact inSL_I _ | simp)) (awake05_c) glob_nil (by first | exact inSL_I _ | simp) (by first | exact .inl rfl | exact .inr (by simp)) rfl rfl)) ?_
    refine WL_cons hC.fn (.plain rfl (oc_assign hC (.tmp rfl) rfl rfl)) ?_
    refine WL_nil ?_
    refine W_ret ?_
    exact fin0 (.cons (.tmp rfl) .nil) rfl trivial
  ·
    refine W_region ?_
    refine WL_cons hC.fn (.plain rfl (oc_move hC (.tmp rfl) rfl rfl)) ?_
    refine WL_cons hC.fn (.plain rfl (ox_len hC (.tmp rfl) (by first | exact .row rfl | exact .vs | exact .sl rfl | exact .nils) Try.underlying33 rfl rfl rfl)) ?_
    refine WL_cons hC.fn (.plain rfl (ox_cmp hC rfl (.tmp rfl) .cint (r := false) (by simp only [cmpI]; exact decide_eq_false (by omega)) rfl rfl)) ?_
    refine WL_nil ?_
    refine W_cond rfl (by decide) (fun hc => by cases hc) (fun _ => ?_)
    refine W_skip ?_
    refine W_seq ?_
    refine W_region ?_
    refine WL_cons hC.fn (.plain rfl (ox_litRI (k := .u8) (ws := []) hC .nil Try.underlying33 cells_5 zero_5 rfl (by decide) rfl rfl (by first | rfl | simp) rfl rfl rfl)) ?_
    refine WL_cons hC.fn (.plain rfl (oc_move hC (.tmp rfl) rfl rfl)) ?_
    refine WL_cons hC.fn (.plain rfl (ox_append (n' := nb) (cs' := I .u8 b) hC (.tmp rfl) (.tmp rfl) (by first | exact .row rfl rfl (by first | exact .here rfl | exact .there (.here rfl) rfl | exact .there (.there (.here rfl) rfl) rfl | exact .there (.there (.there (.here rfl) rfl) rfl) rfl | exact .there (.there (.there (.there (.here rfl) rfl) rfl) rfl) rfl | exact .there (.there (.there (.there (.there (.here rfl) rfl) rfl) rfl) rfl) rfl | exact .there (.there (.there (.there (.there (.there (.here rfl) rfl) rfl) rfl) rfl) rfl) rfl | exact .there (.there (.there (.there (.there (.there (.there (.here rfl) rfl) rfl) rfl) rfl) rfl) rfl) rfl | exact .there (.there (.there (.there (.there (.there (.there (.there (.here rfl) rfl) rfl) rfl) rfl) rfl) rfl) rfl) rfl | exact .there (.there (.there (.there (.there (.there (.there (.there (.there (.here rfl) rfl) rfl) rfl) rfl) rfl) rfl) rfl) rfl) rfl | exact .there (.there (.there (.there (.there (.there (.there (.there (.there (.there (.here rfl) rfl) rfl) rfl) rfl) rfl) rfl) rfl) rfl) rfl) rfl | exact .there (.there (.there (.there (.there (.there (.there (.there (.there (.there (.there (.here rfl) rfl) rfl) rfl) rfl) rfl) rfl) rfl) rfl) rfl) rfl) rfl | exact .there (.there (.there (.there (.there (.there (.there (.there (.there (.there (.there (.there (.here rfl) rfl) rfl) rfl) rfl) rfl) rfl) rfl) rfl) rfl) rfl) rfl) rfl | exact .there (.there (.there (.there (.there (.there (.there (.there (.there (.there (.there (.there (.there (.here rfl) rfl) rfl) rfl) rfl) rfl) rfl) rfl) rfl) rfl) rfl) rfl) rfl) rfl | exact .there (.there (.there (.there (.there (.there (.there (.there (.there (.there (.there (.there (.there (.there (.here rfl) rfl) rfl) rfl) rfl) rfl) rfl) rfl) rfl) rfl) rfl) rfl) rfl) rfl) rfl | exact .there (.there (.there (.there (.there (.there (.there (.there (.there (.there (.there (.there (.there (.there (.there (.here rfl) rfl) rfl) rfl) rfl) rfl) rfl) rfl) rfl) rfl) rfl) rfl) rfl) rfl) rfl) rfl) | exact .nils) (by first | exact .row rfl | exact .vs | exact .sl rfl | exact .nils) (by first | exact hro_nil | exact hro_one rfl) Try.underlying33 cells_5 bytes_5 zero_5 rfl (by decide) (by rw [length_I]; omega) (by first | rfl | exact one_takeI) (Nat.zero_add _) ((app_I (us := []) hb).trans rfl) (by simp only [maxLen]; omega) (by omega) rfl rfl)) ?_
    refine WL_cons hC.fn (.plain rfl (oc_assign hC (.tmp rfl) rfl rfl)) ?_
    refine WL_nil ?_
    refine W_seq ?_
    refine W_region ?_
    refine WL_cons hC.fn (.plain rfl (oc_load hC (.tmp rfl) (by first | exact .p rfl | exact .rp) shp_29 (by first | exact unit_blkI (by first | omega | (simp <;> fail) | (simp; omega)) | exact unit_rowI (by first | omega | (simp; omega)) | exact unit_all (by first | omega | (simp <;> fail) | (simp; omega)) | exact unit_takeI0 (by first | omega | (simp; omega)) | exact unit_takeI (by first | omega | (simp; omega)) | exact unit_agg rfl) rfl rfl)) ?_
    refine WL_cons hC.fn (.plain rfl (oc_move hC (.tmp rfl) rfl rfl)) ?_
    refine WL_cons hC.fn (.plain rfl (oc_load hC (.tmp rfl) (by first | exact .p rfl | exact .rp) shp_30 (by first | exact unit_blkI (by first | omega | (simp <;> fail) | (simp; omega)) | exact unit_rowI (by first | omega | (simp; omega)) | exact unit_all (by first | omega | (simp <;> fail) | (simp; omega)) | exact unit_takeI0 (by first | omega | (simp; omega)) | exact unit_takeI (by first | omega | (simp; omega)) | exact unit_agg rfl) rfl rfl)) ?_
    refine WL_cons hC.fn (.plain rfl (oc_move hC (.tmp rfl) rfl rfl)) ?_
    refine WL_cons hC.fn (.plain rfl (oc_callN hC (.cons (.tmp rfl) (.cons (.tmp rfl) (.cons (.tmp rfl) (.cons (.tmp rfl) .nil)))) (.cons1 (.free (by first | exact inSL_I _ | simp)) (.cons1 (.free (by first | exact inSL_I _ | simp)) (.cons1 (.free (by first | exact inSL_I _ | simp)) (.cons1 (by first | exact .free (by first | exact inSL_I _ | simp) | exact .row rfl rfl (by first | exact inSL_I _ | simp) | exact .nils | exact .sl1 rfl (by first | exact cut_I | rfl) (by first | exact inSL_I _ | simp)) (.same (by first | exact inSL_I _ | simp)))))) (xor_c _ _ _ _ _ hk hnc hk8 hc8 hn hb hb8 (by omega)) glob_nil (by first | exact inSL_I _ | simp) rfl (by first | exact .inl rfl | exact .inr ⟨by simp, novsL_I _⟩ | exact .inr ⟨by simp, by simp⟩) rfl rfl)) ?_
    refine WL_cons hC.fn (.plain rfl (oc_assign hC (.tmp rfl) rfl rfl)) ?_
    refine WL_nil ?_
    refine W_seq ?_
    refine W_drawD hC ?_
    refine WD_cons (.plain rfl (oc_move hC (.tmp rfl) rfl rfl)) ?_
    refine WD_cons (.plain rfl (ox_b2s hC (.tmp rfl) (by first | exact .row rfl | exact .vs | exact .sl rfl | exact .nils) (by first | exact take_allI (by first | assumption | rfl | (simp; omega) | omega) | exact take_cutI | exact take_takeI) (by first | assumption | rfl | omega | (simp; omega)) Try.underlying33 Try.underlying5 Try.underlying9 rfl rfl)) ?_
    refine WD_cons (.plain rfl (ox_cutA hC (.tmp rfl) .no .no idx_29 (by first | omega | (simp; omega)) (by first | omega | (simp; omega)) (by first | exact .p (by first | (simp <;> fail) | rfl) | exact .rp (by first | omega | (simp; omega))) (by first | exact cut_vsI | rfl) rfl rfl)) ?_
    refine WD_cons (.plain rfl (oc_move hC (.tmp rfl) rfl rfl)) ?_
    refine WD_cons (.plain rfl (oc_conv hC (.tmp rfl) rfl Try.underlying3 (by first | exact i64_conv (by omega) | rfl) rfl rfl)) ?_
    refine WD_cons (.plain rfl (ox_cutA hC (.tmp rfl) .no .no idx_30 (by first | omega | (simp; omega)) (by first | omega | (simp; omega)) (by first | exact .p (by first | (simp <;> fail) | rfl) | exact .rp (by first | omega | (simp; omega))) (by first | exact cut_vsI | rfl) rfl rfl)) ?_
    refine WD_cons (.plain rfl (oc_move hC (.tmp rfl) rfl rfl)) ?_
    refine WD_cons (.plain rfl (oc_callN hC (.cons (.tmp rfl) (.cons (.tmp rfl) (.cons (.tmp rfl) (.cons (.tmp rfl) .nil)))) (.sl (m := 32) rfl (by rw [List.drop_zero]; exact take_allI hk) (by intro h; cases h) (.same (inSL_I _)) (.free trivial (.sl (m := 12) rfl (by rw [List.drop_zero]; exact take_allI hnc) (by intro h; cases h) (.same (inSL_I _)) (.free (inSL_I _) (.same trivial))))) (rxorb_c nb b key nonce n hk hnc hk8 hc8 hn hb hb8 (by omega)) glob_nil (by first | exact inSL_I _ | simp) rfl (by first | exact .inl rfl | exact .inr ⟨by simp, novsL_I _⟩ | exact .inr ⟨by simp, by simp⟩) rfl rfl)) ?_
    refine WD_cons (.plain rfl (ox_b2s hC (.tmp rfl) (by first | exact .row rfl | exact .vs | exact .sl rfl | exact .nils) (by first | exact take_allI (by first | assumption | rfl | (simp; omega) | omega) | exact take_cutI | exact take_takeI) (by first | assumption | rfl | omega | (simp; omega)) Try.underlying33 Try.underlying5 Try.underlying9 rfl rfl)) ?_
    refine WD_cons (.plain rfl (ox_eqs hC (.inl rfl) (.tmp rfl) (.tmp rfl) (r := true) (by simp) rfl rfl)) ?_
    refine WD_cons (.plain rfl (oc_move hC (.tmp rfl) rfl rfl)) ?_
    refine WD_cons (.yes rfl rfl (by decide) rfl (oc_load hC (.tmp rfl) (by first | exact .p rfl | exact .rp) shp_29 (by first | exact unit_blkI (by first | omega | (simp <;> fail) | (simp; omega)) | exact unit_rowI (by first | omega | (simp; omega)) | exact unit_all (by first | omega | (simp <;> fail) | (simp; omega)) | exact unit_takeI0 (by first | omega | (simp; omega)) | exact unit_takeI (by first | omega | (simp; omega)) | exact unit_agg rfl) rfl rfl)) ?_
    refine WD_cons (.yes rfl rfl (by decide) rfl (oc_move hC (.tmp rfl) rfl rfl)) ?_
    refine WD_cons (.yes rfl rfl (by decide) rfl (oc_load hC (.tmp rfl) (by first | exact .p rfl | exact .rp) shp_30 (by first | exact unit_blkI (by first | omega | (simp <;> fail) | (simp; omega)) | exact unit_rowI (by first | omega | (simp; omega)) | exact unit_all (by first | omega | (simp <;> fail) | (simp; omega)) | exact unit_takeI0 (by first | omega | (simp; omega)) | exact unit_takeI (by first | omega | (simp; omega)) | exact unit_agg rfl) rfl rfl)) ?_
    refine WD_cons (.yes rfl rfl (by decide) rfl (oc_move hC (.tmp rfl) rfl rfl)) ?_
    refine WD_cons (.yes rfl rfl (by decide) rfl (oc_callN hC (.cons (.tmp rfl) (.cons (.tmp rfl) (.cons (.tmp rfl) (.cons (.tmp rfl) .nil)))) (.cons1 (.free (by first | exact inSL_I _ | simp)) (.cons1 (.free (by first | exact inSL_I _ | simp)) (.cons1 (.free (by first | exact inSL_I _ | simp)) (.cons1 (by first | exact .free (by first | exact inSL_I _ | simp) | exact .row rfl rfl (by first | exact inSL_I _ | simp) | exact .nils | exact .sl1 rfl (by first | exact cut_I | rfl) (by first | exact inSL_I _ | simp)) (.same (by first | exact inSL_I _ | simp)))))) (xor_c _ _ _ _ _ hk hnc hk8 hc8 hn hxl B8_xor (by omega)) glob_nil (by first | exact inSL_I _ | simp) rfl (by first | exact .inl rfl | exact .inr ⟨by simp, novsL_I _⟩ | exact .inr ⟨by simp, by simp⟩) rfl rfl)) ?_
    rw [hxx]
    refine WD_cons (.yes rfl rfl (by decide) rfl (ox_b2s hC (.tmp rfl) (by first | exact .row rfl | exact .vs | exact .sl rfl | exact .nils) (by first | exact take_allI (by first | assumption | rfl | (simp; omega) | omega) | exact take_cutI | exact take_takeI) (by first | assumption | rfl | omega | (simp; omega)) Try.underlying33 Try.underlying5 Try.underlying9 rfl rfl)) ?_
    refine WD_cons (.yes rfl rfl (by decide) rfl (oc_move hC (.tmp rfl) rfl rfl)) ?_
    refine WD_cons (.yes rfl rfl (by decide) rfl (ox_b2s hC (.tmp rfl) (by first | exact .row rfl | exact .vs | exact .sl rfl | exact .nils) (by first | exact take_allI (by first | assumption | rfl | (simp; omega) | omega) | exact take_cutI | exact take_takeI) (by first | assumption | rfl | omega | (simp; omega)) Try.underlying33 Try.underlying5 Try.underlying9 rfl rfl)) ?_
    refine WD_cons (.yes rfl rfl (by decide) rfl (ox_eqs hC (.inl rfl) (.tmp rfl) (.tmp rfl) (r := true) (by simp) rfl rfl)) ?_
    refine WD_cons (.plain rfl (ox_pick hC (.tmp rfl) (.tmp rfl) .cbool (by first | exact pick_t | exact pick_f | rfl) rfl rfl)) ?_
    refine WD_cons (.plain rfl (oc_move hC (.tmp rfl) rfl rfl)) ?_
    refine WD_cons (.yes rfl rfl (by decide) rfl (oc_move hC (.tmp rfl) rfl rfl)) ?_
    refine WD_cons (.yes rfl rfl (by decide) rfl (ox_b2s hC (.tmp rfl) (by first | exact .row rfl | exact .vs | exact .sl rfl | exact .nils) (by first | exact take_allI (by first | assumption | rfl | (simp; omega) | omega) | exact take_cutI | exact take_takeI) (by first | assumption | rfl | omega | (simp; omega)) Try.underlying33 Try.underlying5 Try.underlying9 rfl rfl)) ?_
    refine WD_cons (.yes rfl rfl (by decide) rfl (oc_move hC (.tmp rfl) rfl rfl)) ?_
    refine WD_cons (.yes rfl rfl (by decide) rfl (ox_b2s hC (.tmp rfl) (by first | exact .row rfl | exact .vs | exact .sl rfl | exact .nils) (by first | exact take_allI (by first | assumption | rfl | (simp; omega) | omega) | exact take_cutI | exact take_takeI) (by first | assumption | rfl | omega | (simp; omega)) Try.underlying33 Try.underlying5 Try.underlying9 rfl rfl)) ?_
    refine WD_cons (.yes rfl rfl (by decide) rfl (ox_eqs hC (.inl rfl) (.tmp rfl) (.tmp rfl) (r := true) (by simp) rfl rfl)) ?_
    refine WD_cons (.plain rfl (ox_pick hC (.tmp rfl) (.tmp rfl) .cbool (by first | exact pick_t | exact pick_f | rfl) rfl rfl)) ?_
    refine WD_cons (.plain rfl (oc_move hC (.tmp rfl) rfl rfl)) ?_
    refine WD_cons (.yes rfl rfl (by decide) rfl (oc_call hC .nil (.same (by first | exact inSL_I _ | simp)) (awake05_c) glob_nil (by first | exact inSL_I _ | simp) (by first | exact .inl rfl | exact .inr (by simp)) rfl rfl)) ?_
    refine WD_cons (.plain rfl (ox_pick hC (.tmp rfl) (.tmp rfl) .cbool (by first | exact pick_t | exact pick_f | rfl) rfl rfl)) ?_
    refine WD_cons (.plain rfl (oc_assign hC (.tmp rfl) rfl rfl)) ?_
    refine WD_nil (by kernel_rfl) ?_
    refine W_ret ?_
    exact fin0 (.cons (.tmp rfl) .nil) rfl trivial
set_option maxRecDepth 20000 in
set_option maxHeartbeats 4000000 in
theorem law_StreamParts (na nb : Nat) (a b : List Int) (key nonce : List Int) (n : Int) (hk : key.length = 32) (hnc : nonce.length = 12) (hk8 : B8 key) (hc8 : B8 nonce) (hn : 0 ≤ n ∧ n < 4294967296) (ha : a.length = na) (hb : b.length = nb) (ha8 : B8 a) (hb8 : B8 b) : FnC Try.prog 6 [] [.ag (I .u8 key), .i .u32 n, .ag (I .u8 nonce), .vs na (I .u8 a), .vs nb (I .u8 b)] [] [] (.b true) := by
  have hnq := nn_range (n := n) (i := na / 64)
  have h1l : (xorM key n nonce (a ++ b)).length = na + nb := length_xor.trans (by simp; omega)
  have h2l : (xorM key n nonce a).length = na := length_xor.trans ha
  have h3l : (xorM key (nn n (na / 64)) nonce b).length = nb := length_xor.trans hb
  refine FnC.introR (N0 := 0) (T := 64) (E := [(0, .ag (I .u8 key)), (1, .i .u32 n), (2, .ag (I .u8 nonce)), (3, .vs na (I .u8 a)), (4, .vs nb (I .u8 b))]) Try.func6 rfl (by decide) mix rfl rfl rfl (by simp) rfl ⟨(by first | exact inSL_I _ | trivial | simp), (by first | exact inSL_I _ | trivial | simp), (by first | exact inSL_I _ | trivial | simp), (by first | exact inSL_I _ | trivial | simp), (by first | exact inSL_I _ | trivial | simp), trivial⟩ (by simp) (by intro S _ _ h; simp) (fun F n0 X w ρ hC hro => ?_)
  refine W_seq ?_
  refine W_region ?_
  refine WL_cons hC.fn (.plain rfl (ox_box hC (.tmp rfl) (by first | rfl | exact flat_agI) (by first | exact cells_ag | rfl) rfl rfl)) ?_
  refine WL_cons hC.fn (.plain rfl (ox_box hC (.tmp rfl) (by first | rfl | exact flat_agI) (by first | exact cells_ag | rfl) rfl rfl)) ?_
  refine WL_cons hC.fn (.plain rfl (oc_assign hC .cbool rfl rfl)) ?_
  refine WL_nil ?_
  refine W_seq ?_
  refine W_seq ?_
  rcases (show 300 < na ∨ (na ≤ 300 ∧ 300 < nb) ∨ (na ≤ 300 ∧ nb ≤ 300 ∧ na % 64 ≠ 0) ∨ (na ≤ 300 ∧ nb ≤ 300 ∧ na % 64 = 0) by omega) with h | h | h | h
  ·
    refine W_region ?_
    refine WL_cons hC.fn (.plain rfl (oc_move hC (.tmp rfl) rfl rfl)) ?_
    refine WL_cons hC.fn (.plain rfl (ox_len hC (.tmp rfl) (by first | exact .row rfl | exact .vs | exact .sl rfl | exact .nils) Try.underlying33 rfl rfl rfl)) ?_
    refine WL_cons hC.fn (.plain rfl (ox_cmp hC rfl (.tmp rfl) .cint (r := true) (by simp only [cmpI]; exact decide_eq_true (by omega)) rfl rfl)) ?_
    refine WL_cons hC.fn (.plain rfl (oc_move hC (.tmp rfl) rfl rfl)) ?_
    refine WL_cons hC.fn (.no (s1 := ⟨_, (18, .tu []) :: _, _⟩) rfl rfl (by decide) rfl (by decide) (fun t ht => by cases ht; exact ⟨blt_lt rfl, blt_lt rfl⟩) (fun t => setE_cons _ _ _ _) rfl rfl) ?_
    refine WL_cons hC.fn (.no (s1 := ⟨_, (19, .tu []) :: _, _⟩) rfl rfl (by decide) rfl (by decide) (fun t ht => by cases ht; exact ⟨blt_lt rfl, blt_lt rfl⟩) (fun t => setE_cons _ _ _ _) rfl rfl) ?_
    refine WL_cons hC.fn (.no (s1 := ⟨_, (20, .tu []) :: _, _⟩) rfl rfl (by decide) rfl (by decide) (fun t ht => by cases ht; exact ⟨blt_lt rfl, blt_lt rfl⟩) (fun t => setE_cons _ _ _ _) rfl rfl) ?_
    refine WL_cons hC.fn (.plain rfl (ox_pick hC (.tmp rfl) .cbool (.tmp rfl) (by first | exact pick_t | exact pick_f | rfl) rfl rfl)) ?_
    refine WL_cons hC.fn (.plain rfl (oc_move hC (.tmp rfl) rfl rfl)) ?_
    refine WL_cons hC.fn (.no (s1 := ⟨_, (23, .tu []) :: _, _⟩) rfl rfl (by decide) rfl (by decide) (fun t ht => by cases ht; exact ⟨blt_lt rfl, blt_lt rfl⟩) (fun t => setE_cons _ _ _ _) rfl rfl) ?_
    refine WL_cons hC.fn (.no (s1 := ⟨_, (24, .tu []) :: _, _⟩) rfl rfl (by decide) rfl (by decide) (fun t ht => by cases ht; exact ⟨blt_lt rfl, blt_lt rfl⟩) (fun t => setE_cons _ _ _ _) rfl rfl) ?_
    refine WL_cons hC.fn (.no (s1 := ⟨_, (25, .tu []) :: _, _⟩) rfl rfl (by decide) rfl (by decide) (fun t ht => by cases ht; exact ⟨blt_lt rfl, blt_lt rfl⟩) (fun t => setE_cons _ _ _ _) rfl rfl) ?_
    refine WL_cons hC.fn (.no (s1 := ⟨_, (26, .tu []) :: _, _⟩) rfl rfl (by decide) rfl (by decide) (fun t ht => by cases ht; exact ⟨blt_lt rfl, blt_lt rfl⟩) (fun t => setE_cons _ _ _ _) rfl rfl) ?_
    refine WL_cons hC.fn (.plain rfl (ox_pick hC (.tmp rfl) .cbool (.tmp rfl) (by first | exact pick_t | exact pick_f | rfl) rfl rfl)) ?_
    refine WL_nil ?_
    refine W_cond rfl (by decide) (fun _ => ?_) (fun hc => by cases hc)
    refine W_seq ?_
    refine W_region ?_
    refine WL_cons hC.fn (.plain rfl (oc_call hC .nil (.same (by first | exact inSL_I _ | simp)) (awake05_c) glob_nil (by first | exact inSL_I _ | simp) (by first | exact .inl rfl | exact .inr (by simp)) rfl rfl)) ?_
    refine WL_cons hC.fn (.plain rfl (oc_assign hC (.tmp rfl) rfl rfl)) ?_
    refine WL_nil ?_
    refine W_ret ?_
    exact fin0 (.cons (.tmp rfl) .nil) rfl trivial
  ·
    refine W_region ?_
    refine WL_cons hC.fn (.plain rfl (oc_move hC (.tmp rfl) rfl rfl)) ?_
    refine WL_cons hC.fn (.plain rfl (ox_len hC (.tmp rfl) (by first | exact .row rfl | exact .vs | exact .sl rfl | exact .nils) Try.underlying33 rfl rfl rfl)) ?_
    refine WL_cons hC.fn (.plain rfl (ox_cmp hC rfl (.tmp rfl) .cint (r := false) (by simp only [cmpI]; exact decide_eq_false (by omega)) rfl rfl)) ?_
    refine WL_cons hC.fn (.plain rfl (oc_move hC (.tmp rfl) rfl rfl)) ?_
    refine WL_cons hC.fn (.yes rfl rfl (by decide) rfl (oc_move hC (.tmp rfl) rfl rfl)) ?_
    refine WL_cons hC.fn (.yes rfl rfl (by decide) rfl (ox_len hC (.tmp rfl) (by first | exact .row rfl | exact .vs | exact .sl rfl | exact .nils) Try.underlying33 rfl rfl rfl)) ?_
    refine WL_cons hC.fn (.yes rfl rfl (by decide) rfl (ox_cmp hC rfl (.tmp rfl) .cint (r := true) (by simp only [cmpI]; exact decide_eq_true (by omega)) rfl rfl)) ?_
    refine WL_cons hC.fn (.plain rfl (ox_pick hC (.tmp rfl) .cbool (.tmp rfl) (by first | exact pick_t | exact pick_f | rfl) rfl rfl)) ?_
    refine WL_cons hC.fn (.plain rfl (oc_move hC (.tmp rfl) rfl rfl)) ?_
    refine WL_cons hC.fn (.no (s1 := ⟨_, (23, .tu []) :: _, _⟩) rfl rfl (by decide) rfl (by decide) (fun t ht => by cases ht; exact ⟨blt_lt rfl, blt_lt rfl⟩) (fun t => setE_cons _ _ _ _) rfl rfl) ?_
    refine WL_cons hC.fn (.no (s1 := ⟨_, (24, .tu []) :: _, _⟩) rfl rfl (by decide) rfl (by decide) (fun t ht => by cases ht; exact ⟨blt_lt rfl, blt_lt rfl⟩) (fun t => setE_cons _ _ _ _) rfl rfl) ?_
    refine WL_cons hC.fn (.no (s1 := ⟨_, (25, .tu []) :: _, _⟩) rfl rfl (by decide) rfl (by decide) (fun t ht => by cases ht; exact ⟨blt_lt rfl, blt_lt rfl⟩) (fun t => setE_cons _ _ _ _) rfl rfl) ?_
    refine WL_cons hC.fn (.no (s1 := ⟨_, (26, .tu []) :: _, _⟩) rfl rfl (by decide) rfl (by decide) (fun t ht => by cases ht; exact ⟨blt_lt rfl, blt_lt rfl⟩) (fun t => setE_cons _ _ _ _) rfl rfl) ?_
    refine WL_cons hC.fn (.plain rfl (ox_pick hC (.tmp rfl) .cbool (.tmp rfl) (by first | exact pick_t | exact pick_f | rfl) rfl rfl)) ?_
    refine WL_nil ?_
    refine W_cond rfl (by decide) (fun _ => ?_) (fun hc => by cases hc)
    refine W_seq ?_
    refine W_region ?_
    refine WL_cons hC.fn (.plain rfl (oc_call hC .nil (.same (by first | exact inSL_I _ | simp)) (awake05_c) glob_nil (by first | exact inSL_I _ | simp) (by first | exact .inl rfl | exact .inr (by simp)) rfl rfl)) ?_
    refine WL_cons hC.fn (.plain rfl (oc_assign hC (.tmp rfl) rfl rfl)) ?_
    refine WL_nil ?_
    refine W_ret ?_
    exact fin0 (.cons (.tmp rfl) .nil) rfl trivial
  ·
    refine W_region ?_
    refine WL_cons hC.fn (.plain rfl (oc_move hC (.tmp rfl) rfl rfl)) ?_
    refine WL_cons hC.fn (.plain rfl (ox_len hC (.tmp rfl) (by first | exact .row rfl | exact .vs | exact .sl rfl | exact .nils) Try.underlying33 rfl rfl rfl)) ?_
    refine WL_cons hC.fn (.plain rfl (ox_cmp hC rfl (.tmp rfl) .cint (r := false) (by simp only [cmpI]; exact decide_eq_false (by omega)) rfl rfl)) ?_
    refine WL_cons hC.fn (.plain rfl (oc_move hC (.tmp rfl) rfl rfl)) ?_
    refine WL_cons hC.fn (.yes rfl rfl (by decide) rfl (oc_move hC (.tmp rfl) rfl rfl)) ?_
    refine WL_cons hC.fn (.yes rfl rfl (by decide) rfl (ox_len hC (.tmp rfl) (by first | exact .row rfl | exact .vs | exact .sl rfl | exact .nils) Try.underlying33 rfl rfl rfl)) ?_
    refine WL_cons hC.fn (.yes rfl rfl (by decide) rfl (ox_cmp hC rfl (.tmp rfl) .cint (r := false) (by simp only [cmpI]; exact decide_eq_false (by omega)) rfl rfl)) ?_
    refine WL_cons hC.fn (.plain rfl (ox_pick hC (.tmp rfl) .cbool (.tmp rfl) (by first | exact pick_t | exact pick_f | rfl) rfl rfl)) ?_
    refine WL_cons hC.fn (.plain rfl (oc_move hC (.tmp rfl) rfl rfl)) ?_
    refine WL_cons hC.fn (.yes rfl rfl (by decide) rfl (oc_move hC (.tmp rfl) rfl rfl)) ?_
    refine WL_cons hC.fn (.yes rfl rfl (by decide) rfl (ox_len hC (.tmp rfl) (by first | exact .row rfl | exact .vs | exact .sl rfl | exact .nils) Try.underlying33 rfl rfl rfl)) ?_
    refine WL_cons hC.fn (.yes rfl rfl (by decide) rfl (oc_div hC (.inr rfl) (.tmp rfl) .cint (by first | decide | omega) (r := ((na % 64 : Nat) : Int)) (nrem (y := 64)) rfl rfl)) ?_
    refine WL_cons hC.fn (.yes rfl rfl (by decide) rfl (ox_cmp hC rfl (.tmp rfl) .cint (r := true) (by simp only [cmpI]; exact decide_eq_true (by omega)) rfl rfl)) ?_
    refine WL_cons hC.fn (.plain rfl (ox_pick hC (.tmp rfl) .cbool (.tmp rfl) (by first | exact pick_t | exact pick_f | rfl) rfl rfl)) ?_
    refine WL_nil ?_
    refine W_cond rfl (by decide) (fun _ => ?_) (fun hc => by cases hc)
    refine W_seq ?_
    refine W_region ?_
    refine WL_cons hC.fn (.plain rfl (oc_call hC .nil (.same (by first | exact inSL_I _ | simp)) (awake05_c) glob_nil (by first | exact inSL_I _ | simp) (by first | exact .inl rfl | exact .inr (by simp)) rfl rfl)) ?_
    refine WL_cons hC.fn (.plain rfl (oc_assign hC (.tmp rfl) rfl rfl)) ?_
    refine WL_nil ?_
    refine W_ret ?_
    exact fin0 (.cons (.tmp rfl) .nil) rfl trivial
  ·
    have hpt := xor_parts (key := key) (n := n) (nonce := nonce) (b := b) ha h.2.2
    refine W_region ?_
    refine WL_cons hC.fn (.plain rfl (oc_move hC (.tmp rfl) rfl rfl)) ?_
    refine WL_cons hC.fn (.plain rfl (ox_len hC (.tmp rfl) (by first | exact .row rfl | exact .vs | exact .sl rfl | exact .nils) Try.underlying33 rfl rfl rfl)) ?_
    refine WL_cons hC.fn (.plain rfl (ox_cmp hC rfl (.tmp rfl) .cint (r := false) (by simp only [cmpI]; exact decide_eq_false (by omega)) rfl rfl)) ?_
    refine WL_cons hC.fn (.plain rfl (oc_move hC (.tmp rfl) rfl rfl)) ?_
    refine WL_cons hC.fn (.yes rfl rfl (by decide) rfl (oc_move hC (.tmp rfl) rfl rfl)) ?_
    refine WL_cons hC.fn (.yes rfl rfl (by decide) rfl (ox_len hC (.tmp rfl) (by first | exact .row rfl | exact .vs | exact .sl rfl | exact .nils) Try.underlying33 rfl rfl rfl)) ?_
    refine WL_cons hC.fn (.yes rfl rfl (by decide) rfl (ox_cmp hC rfl (.tmp rfl) .cint (r := false) (by simp only [cmpI]; exact decide_eq_false (by omega)) rfl rfl)) ?_
    refine WL_cons hC.fn (.plain rfl (ox_pick hC (.tmp rfl) .cbool (.tmp rfl) (by first | exact pick_t | exact pick_f | rfl) rfl rfl)) ?_
    refine WL_cons hC.fn (.plain rfl (oc_move hC (.tmp rfl) rfl rfl)) ?_
    refine WL_cons hC.fn (.yes rfl rfl (by decide) rfl (oc_move hC (.tmp rfl) rfl rfl)) ?_
    refine WL_cons hC.fn (.yes rfl rfl (by decide) rfl (ox_len hC (.tmp rfl) (by first | exact .row rfl | exact .vs | exact .sl rfl | exact .nils) Try.underlying33 rfl rfl rfl)) ?_
    refine WL_cons hC.fn (.yes rfl rfl (by decide) rfl (oc_div hC (.inr rfl) (.tmp rfl) .cint (by first | decide | omega) (r := ((na % 64 : Nat) : Int)) (nrem (y := 64)) rfl rfl)) ?_
    refine WL_cons hC.fn (.yes rfl rfl (by decide) rfl (ox_cmp hC rfl (.tmp rfl) .cint (r := false) (by simp only [cmpI]; exact decide_eq_false (by omega)) rfl rfl)) ?_
    refine WL_cons hC.fn (.plain rfl (ox_pick hC (.tmp rfl) .cbool (.tmp rfl) (by first | exact pick_t | exact pick_f | rfl) rfl rfl)) ?_
    refine WL_nil ?_
    refine W_cond rfl (by decide) (fun hc => by cases hc) (fun _ => ?_)
    refine W_skip ?_
    refine W_seq ?_
    refine W_drawD hC ?_
    refine WD_cons (.plain rfl (oc_load hC (.tmp rfl) (by first | exact .p rfl | exact .rp) shp_29 (by first | exact unit_blkI (by first | omega | (simp <;> fail) | (simp; omega)) | exact unit_rowI (by first | omega | (simp; omega)) | exact unit_all (by first | omega | (simp <;> fail) | (simp; omega)) | exact unit_takeI0 (by first | omega | (simp; omega)) | exact unit_takeI (by first | omega | (simp; omega)) | exact unit_agg rfl) rfl rfl)) ?_
    refine WD_cons (.plain rfl (oc_move hC (.tmp rfl) rfl rfl)) ?_
    refine WD_cons (.plain rfl (oc_load hC (.tmp rfl) (by first | exact .p rfl | exact .rp) shp_30 (by first | exact unit_blkI (by first | omega | (simp <;> fail) | (simp; omega)) | exact unit_rowI (by first | omega | (simp; omega)) | exact unit_all (by first | omega | (simp <;> fail) | (simp; omega)) | exact unit_takeI0 (by first | omega | (simp; omega)) | exact unit_takeI (by first | omega | (simp; omega)) | exact unit_agg rfl) rfl rfl)) ?_
    refine WD_cons (.plain rfl (ox_litRI (k := .u8) (ws := []) hC .nil Try.underlying33 cells_5 zero_5 rfl (by decide) rfl rfl (by first | rfl | simp) rfl rfl rfl)) ?_
    refine WD_cons (.plain rfl (oc_move hC (.tmp rfl) rfl rfl)) ?_
    refine WD_cons (.plain rfl (ox_append (n' := na) (cs' := I .u8 a) hC (.tmp rfl) (.tmp rfl) (by first | exact .row rfl rfl (by first | exact .here rfl | exact .there (.here rfl) rfl | exact .there (.there (.here rfl) rfl) rfl | exact .there (.there (.there (.here rfl) rfl) rfl) rfl | exact .there (.there (.there (.there (.here rfl) rfl) rfl) rfl) rfl | exact .there (.there (.there (.there (.there (.here rfl) rfl) rfl) rfl) rfl) rfl | exact .there (.there (.there (.there (.there (.there (.here rfl) rfl) rfl) rfl) rfl) rfl) rfl | exact .there (.there (.there (.there (.there (.there (.there (.here rfl) rfl) rfl) rfl) rfl) rfl) rfl) rfl | exact .there (.there (.there (.there (.there (.there (.there (.there (.here rfl) rfl) rfl) rfl) rfl) rfl) rfl) rfl) rfl | exact .there (.there (.there (.there (.there (.there (.there (.there (.there (.here rfl) rfl) rfl) rfl) rfl) rfl) rfl) rfl) rfl) rfl | exact .there (.there (.there (.there (.there (.there (.there (.there (.there (.there (.here rfl) rfl) rfl) rfl) rfl) rfl) rfl) rfl) rfl) rfl) rfl | exact .there (.there (.there (.there (.there (.there (.there (.there (.there (.there (.there (.here rfl) rfl) rfl) rfl) rfl) rfl) rfl) rfl) rfl) rfl) rfl) rfl | exact .there (.there (.there (.there (.there (.there (.there (.there (.there (.there (.there (.there (.here rfl) rfl) rfl) rfl) rfl) rfl) rfl) rfl) rfl) rfl) rfl) rfl) rfl | exact .there (.there (.there (.there (.there (.there (.there (.there (.there (.there (.there (.there (.there (.here rfl) rfl) rfl) rfl) rfl) rfl) rfl) rfl) rfl) rfl) rfl) rfl) rfl) rfl | exact .there (.there (.there (.there (.there (.there (.there (.there (.there (.there (.there (.there (.there (.there (.here rfl) rfl) rfl) rfl) rfl) rfl) rfl) rfl) rfl) rfl) rfl) rfl) rfl) rfl) rfl | exact .there (.there (.there (.there (.there (.there (.there (.there (.there (.there (.there (.there (.there (.there (.there (.here rfl) rfl) rfl) rfl) rfl) rfl) rfl) rfl) rfl) rfl) rfl) rfl) rfl) rfl) rfl) rfl) | exact .nils) (by first | exact .row rfl | exact .vs | exact .sl rfl | exact .nils) (by first | exact hro_nil | exact hro_one rfl) Try.underlying33 cells_5 bytes_5 zero_5 rfl (by decide) (by rw [length_I]; omega) (by first | rfl | exact one_takeI) (Nat.zero_add _) ((app_I (us := []) ha).trans rfl) (by simp only [maxLen]; omega) (by omega) rfl rfl)) ?_
    refine WD_cons (.plain rfl (oc_move hC (.tmp rfl) rfl rfl)) ?_
    refine WD_cons (.plain rfl (ox_append hC (.tmp rfl) (.tmp rfl) (by first | exact .row rfl rfl (by first | exact .here rfl | exact .there (.here rfl) rfl | exact .there (.there (.here rfl) rfl) rfl | exact .there (.there (.there (.here rfl) rfl) rfl) rfl | exact .there (.there (.there (.there (.here rfl) rfl) rfl) rfl) rfl | exact .there (.there (.there (.there (.there (.here rfl) rfl) rfl) rfl) rfl) rfl | exact .there (.there (.there (.there (.there (.there (.here rfl) rfl) rfl) rfl) rfl) rfl) rfl | exact .there (.there (.there (.there (.there (.there (.there (.here rfl) rfl) rfl) rfl) rfl) rfl) rfl) rfl | exact .there (.there (.there (.there (.there (.there (.there (.there (.here rfl) rfl) rfl) rfl) rfl) rfl) rfl) rfl) rfl | exact .there (.there (.there (.there (.there (.there (.there (.there (.there (.here rfl) rfl) rfl) rfl) rfl) rfl) rfl) rfl) rfl) rfl | exact .there (.there (.there (.there (.there (.there (.there (.there (.there (.there (.here rfl) rfl) rfl) rfl) rfl) rfl) rfl) rfl) rfl) rfl) rfl | exact .there (.there (.there (.there (.there (.there (.there (.there (.there (.there (.there (.here rfl) rfl) rfl) rfl) rfl) rfl) rfl) rfl) rfl) rfl) rfl) rfl | exact .there (.there (.there (.there (.there (.there (.there (.there (.there (.there (.there (.there (.here rfl) rfl) rfl) rfl) rfl) rfl) rfl) rfl) rfl) rfl) rfl) rfl) rfl | exact .there (.there (.there (.there (.there (.there (.there (.there (.there (.there (.there (.there (.there (.here rfl) rfl) rfl) rfl) rfl) rfl) rfl) rfl) rfl) rfl) rfl) rfl) rfl) rfl | exact .there (.there (.there (.there (.there (.there (.there (.there (.there (.there (.there (.there (.there (.there (.here rfl) rfl) rfl) rfl) rfl) rfl) rfl) rfl) rfl) rfl) rfl) rfl) rfl) rfl) rfl | exact .there (.there (.there (.there (.there (.there (.there (.there (.there (.there (.there (.there (.there (.there (.there (.here rfl) rfl) rfl) rfl) rfl) rfl) rfl) rfl) rfl) rfl) rfl) rfl) rfl) rfl) rfl) rfl) | exact .nils) (by first | exact .row rfl | exact .vs | exact .sl rfl | exact .nils) (by first | exact hro_nil | exact hro_one rfl) Try.underlying33 cells_5 bytes_5 zero_5 rfl (by decide) (by rw [length_I]; omega) (by first | rfl | exact one_takeI) (by first | rfl | (simp <;> fail) | (simp; omega)) (app_I hb) (by simp only [maxLen]; omega) (by omega) rfl rfl)) ?_
    refine WD_cons (.plain rfl (oc_callN hC (.cons (.tmp rfl) (.cons (.tmp rfl) (.cons (.tmp rfl) (.cons (.tmp rfl) .nil)))) (.cons1 (.free (by first | exact inSL_I _ | simp)) (.cons1 (.free (by first | exact inSL_I _ | simp)) (.cons1 (.free (by first | exact inSL_I _ | simp)) (.cons1 (by first | exact .free (by first | exact inSL_I _ | simp) | exact .row rfl rfl (by first | exact inSL_I _ | simp) | exact .nils | exact .sl1 rfl (by first | exact cut_I | rfl) (by first | exact inSL_I _ | simp)) (.same (by first | exact inSL_I _ | simp)))))) (xor_c _ _ _ _ _ hk hnc hk8 hc8 hn (by simp; omega) (B8_append ha8 hb8) (by omega)) glob_nil (by first | exact inSL_I _ | simp) rfl (by first | exact .inl rfl | exact .inr ⟨by simp, novsL_I _⟩ | exact .inr ⟨by simp, by simp⟩) rfl rfl)) ?_
    refine WD_cons (.plain rfl (oc_assign hC (.tmp rfl) rfl rfl)) ?_
    refine WD_nil (by kernel_rfl) ?_
    refine W_seq ?_
    refine W_drawD hC ?_
    refine WD_cons (.plain rfl (oc_load hC (.tmp rfl) (by first | exact .p rfl | exact .rp) shp_29 (by first | exact unit_blkI (by first | omega | (simp <;> fail) | (simp; omega)) | exact unit_rowI (by first | omega | (simp; omega)) | exact unit_all (by first | omega | (simp <;> fail) | (simp; omega)) | exact unit_takeI0 (by first | omega | (simp; omega)) | exact unit_takeI (by first | omega | (simp; omega)) | exact unit_agg rfl) rfl rfl)) ?_
    refine WD_cons (.plain rfl (oc_move hC (.tmp rfl) rfl rfl)) ?_
    refine WD_cons (.plain rfl (oc_load hC (.tmp rfl) (by first | exact .p rfl | exact .rp) shp_30 (by first | exact unit_blkI (by first | omega | (simp <;> fail) | (simp; omega)) | exact unit_rowI (by first | omega | (simp; omega)) | exact unit_all (by first | omega | (simp <;> fail) | (simp; omega)) | exact unit_takeI0 (by first | omega | (simp; omega)) | exact unit_takeI (by first | omega | (simp; omega)) | exact unit_agg rfl) rfl rfl)) ?_
    refine WD_cons (.plain rfl (oc_move hC (.tmp rfl) rfl rfl)) ?_
    refine WD_cons (.plain rfl (oc_callN hC (.cons (.tmp rfl) (.cons (.tmp rfl) (.cons (.tmp rfl) (.cons (.tmp rfl) .nil)))) (.cons1 (.free (by first | exact inSL_I _ | simp)) (.cons1 (.free (by first | exact inSL_I _ | simp)) (.cons1 (.free (by first | exact inSL_I _ | simp)) (.cons1 (by first | exact .free (by first | exact inSL_I _ | simp) | exact .row rfl rfl (by first | exact inSL_I _ | simp) | exact .nils | exact .sl1 rfl (by first | exact cut_I | rfl) (by first | exact inSL_I _ | simp)) (.same (by first | exact inSL_I _ | simp)))))) (xor_c _ _ _ _ _ hk hnc hk8 hc8 hn ha ha8 (by omega)) glob_nil (by first | exact inSL_I _ | simp) rfl (by first | exact .inl rfl | exact .inr ⟨by simp, novsL_I _⟩ | exact .inr ⟨by simp, by simp⟩) rfl rfl)) ?_
    refine WD_cons (.plain rfl (oc_load hC (.tmp rfl) (by first | exact .p rfl | exact .rp) shp_29 (by first | exact unit_blkI (by first | omega | (simp <;> fail) | (simp; omega)) | exact unit_rowI (by first | omega | (simp; omega)) | exact unit_all (by first | omega | (simp <;> fail) | (simp; omega)) | exact unit_takeI0 (by first | omega | (simp; omega)) | exact unit_takeI (by first | omega | (simp; omega)) | exact unit_agg rfl) rfl rfl)) ?_
    refine WD_cons (.plain rfl (oc_move hC (.tmp rfl) rfl rfl)) ?_
    refine WD_cons (.plain rfl (oc_move hC (.tmp rfl) rfl rfl)) ?_
    refine WD_cons (.plain rfl (ox_len hC (.tmp rfl) (by first | exact .row rfl | exact .vs | exact .sl rfl | exact .nils) Try.underlying33 rfl rfl rfl)) ?_
    refine WD_cons (.plain rfl (oc_div hC (.inl rfl) (.tmp rfl) .cint (by first | decide | omega) (r := ((na / 64 : Nat) : Int)) (nquo (y := 64) (by omega) (by decide)) rfl rfl)) ?_
    refine WD_cons (.plain rfl (oc_conv hC (.tmp rfl) rfl Try.underlying22 (r := IntKind.u32.wrap ((na / 64 : Nat) : Int)) rfl rfl rfl)) ?_
    refine WD_cons (.plain rfl (oc_bin hC rfl (.tmp rfl) (.tmp rfl) (r := nn n (na / 64)) u32_nn rfl rfl)) ?_
    refine WD_cons (.plain rfl (oc_load hC (.tmp rfl) (by first | exact .p rfl | exact .rp) shp_30 (by first | exact unit_blkI (by first | omega | (simp <;> fail) | (simp; omega)) | exact unit_rowI (by first | omega | (simp; omega)) | exact unit_all (by first | omega | (simp <;> fail) | (simp; omega)) | exact unit_takeI0 (by first | omega | (simp; omega)) | exact unit_takeI (by first | omega | (simp; omega)) | exact unit_agg rfl) rfl rfl)) ?_
    refine WD_cons (.plain rfl (oc_move hC (.tmp rfl) rfl rfl)) ?_
    refine WD_cons (.plain rfl (oc_callN hC (.cons (.tmp rfl) (.cons (.tmp rfl) (.cons (.tmp rfl) (.cons (.tmp rfl) .nil)))) (.cons1 (.free (by first | exact inSL_I _ | simp)) (.cons1 (.free (by first | exact inSL_I _ | simp)) (.cons1 (.free (by first | exact inSL_I _ | simp)) (.cons1 (by first | exact .free (by first | exact inSL_I _ | simp) | exact .row rfl rfl (by first | exact inSL_I _ | simp) | exact .nils | exact .sl1 rfl (by first | exact cut_I | rfl) (by first | exact inSL_I _ | simp)) (.same (by first | exact inSL_I _ | simp)))))) (xor_c _ _ _ _ _ hk hnc hk8 hc8 hnq hb hb8 (by omega)) glob_nil (by first | exact inSL_I _ | simp) rfl (by first | exact .inl rfl | exact .inr ⟨by simp, novsL_I _⟩ | exact .inr ⟨by simp, by simp⟩) rfl rfl)) ?_
    refine WD_cons (.plain rfl (oc_assign hC (.tmp rfl) rfl rfl)) ?_
    refine WD_cons (.plain rfl (oc_assign hC (.tmp rfl) rfl rfl)) ?_
    refine WD_nil (by kernel_rfl) ?_
    refine W_seq ?_
    refine W_region ?_
    refine WL_cons hC.fn (.plain rfl (oc_move hC (.tmp rfl) rfl rfl)) ?_
    refine WL_cons hC.fn (.plain rfl (ox_b2s hC (.tmp rfl) (by first | exact .row rfl | exact .vs | exact .sl rfl | exact .nils) (by first | exact take_allI (by first | assumption | rfl | (simp; omega) | omega) | exact take_cutI | exact take_takeI) (by first | assumption | rfl | omega | (simp; omega)) Try.underlying33 Try.underlying5 Try.underlying9 rfl rfl)) ?_
    refine WL_cons hC.fn (.plain rfl (oc_move hC (.tmp rfl) rfl rfl)) ?_
    refine WL_cons hC.fn (.plain rfl (ox_b2s hC (.tmp rfl) (by first | exact .row rfl | exact .vs | exact .sl rfl | exact .nils) (by first | exact take_allI (by first | assumption | rfl | (simp; omega) | omega) | exact take_cutI | exact take_takeI) (by first | assumption | rfl | omega | (simp; omega)) Try.underlying33 Try.underlying5 Try.underlying9 rfl rfl)) ?_
    refine WL_cons hC.fn (.plain rfl (oc_move hC (.tmp rfl) rfl rfl)) ?_
    refine WL_cons hC.fn (.plain rfl (ox_b2s hC (.tmp rfl) (by first | exact .row rfl | exact .vs | exact .sl rfl | exact .nils) (by first | exact take_allI (by first | assumption | rfl | (simp; omega) | omega) | exact take_cutI | exact take_takeI) (by first | assumption | rfl | omega | (simp; omega)) Try.underlying33 Try.underlying5 Try.underlying9 rfl rfl)) ?_
    refine WL_cons hC.fn (.plain rfl (ox_cat hC (.tmp rfl) (.tmp rfl) (by simp only [bs_size]; omega) (bs_append _ _) rfl rfl)) ?_
    refine WL_cons hC.fn (.plain rfl (ox_eqs hC (.inl rfl) (.tmp rfl) (.tmp rfl) (r := true) (by rw [hpt]; simp) rfl rfl)) ?_
    refine WL_cons hC.fn (.plain rfl (oc_move hC (.tmp rfl) rfl rfl)) ?_
    refine WL_cons hC.fn (.yes rfl rfl (by decide) rfl (oc_call hC .nil (.same (by first | exact inSL_I _ | simp)) (awake05_c) glob_nil (by first | exact inSL_I _ | simp) (by first | exact .inl rfl | exact .inr (by simp)) rfl rfl)) ?_
    refine WL_cons hC.fn (.plain rfl (ox_pick hC (.tmp rfl) (.tmp rfl) .cbool (by first | exact pick_t | exact pick_f | rfl) rfl rfl)) ?_
    refine WL_cons hC.fn (.plain rfl (oc_assign hC (.tmp rfl) rfl rfl)) ?_
    refine WL_nil ?_
    refine W_ret ?_
    exact fin0 (.cons (.tmp rfl) .nil) rfl trivial
set_option maxRecDepth 20000 in
set_option maxHeartbeats 4000000 in
theorem law_StreamLine (na m : Nat) (a b : List Int) (key nonce : List Int) (n : Int) (hk : key.length = 32) (hnc : nonce.length = 12) (hk8 : B8 key) (hc8 : B8 nonce) (hn : 0 ≤ n ∧ n < 4294967296) (ha : a.length = na) (hb : b.length = m) (ha8 : B8 a) (hb8 : B8 b) : FnC Try.prog 7 [] [.ag (I .u8 key), .i .u32 n, .ag (I .u8 nonce), .vs na (I .u8 a), .vs m (I .u8 b)] [] [] (.b true) := by
  refine FnC.introR (N0 := 0) (T := 93) (E := [(0, .ag (I .u8 key)), (1, .i .u32 n), (2, .ag (I .u8 nonce)), (3, .vs na (I .u8 a)), (4, .vs m (I .u8 b))]) Try.func7 rfl (by decide) mix rfl rfl rfl (by simp) rfl ⟨(by first | exact inSL_I _ | trivial | simp), (by first | exact inSL_I _ | trivial | simp), (by first | exact inSL_I _ | trivial | simp), (by first | exact inSL_I _ | trivial | simp), (by first | exact inSL_I _ | trivial | simp), trivial⟩ (by simp) (by intro S _ _ h; simp) (fun F n0 X w ρ hC hro => ?_)
  refine W_seq ?_
  refine W_region ?_
  refine WL_cons hC.fn (.plain rfl (ox_box hC (.tmp rfl) (by first | rfl | exact flat_agI) (by first | exact cells_ag | rfl) rfl rfl)) ?_
  refine WL_cons hC.fn (.plain rfl (ox_box hC (.tmp rfl) (by first | rfl | exact flat_agI) (by first | exact cells_ag | rfl) rfl rfl)) ?_
  refine WL_cons hC.fn (.plain rfl (oc_assign hC .cbool rfl rfl)) ?_
  refine WL_nil ?_
  refine W_seq ?_
  refine W_seq ?_
  rcases (show 300 < na ∨ (na ≤ 300 ∧ na ≠ m) ∨ (na ≤ 300 ∧ na = m) by omega) with h | h | h
  ·
    refine W_region ?_
    refine WL_cons hC.fn (.plain rfl (oc_move hC (.tmp rfl) rfl rfl)) ?_
    refine WL_cons hC.fn (.plain rfl (ox_len hC (.tmp rfl) (by first | exact .row rfl | exact .vs | exact .sl rfl | exact .nils) Try.underlying33 rfl rfl rfl)) ?_
    refine WL_cons hC.fn (.plain rfl (ox_cmp hC rfl (.tmp rfl) .cint (r := true) (by simp only [cmpI]; exact decide_eq_true (by omega)) rfl rfl)) ?_
    refine WL_cons hC.fn (.plain rfl (oc_move hC (.tmp rfl) rfl rfl)) ?_
    refine WL_cons hC.fn (.no (s1 := ⟨_, (20, .tu []) :: _, _⟩) rfl rfl (by decide) rfl (by decide) (fun t ht => by cases ht; exact ⟨blt_lt rfl, blt_lt rfl⟩) (fun t => setE_cons _ _ _ _) rfl rfl) ?_
    refine WL_cons hC.fn (.no (s1 := ⟨_, (21, .tu []) :: _, _⟩) rfl rfl (by decide) rfl (by decide) (fun t ht => by cases ht; exact ⟨blt_lt rfl, blt_lt rfl⟩) (fun t => setE_cons _ _ _ _) rfl rfl) ?_
    refine WL_cons hC.fn (.no (s1 := ⟨_, (22, .tu []) :: _, _⟩) rfl rfl (by decide) rfl (by decide) (fun t ht => by cases ht; exact ⟨blt_lt rfl, blt_lt rfl⟩) (fun t => setE_cons _ _ _ _) rfl rfl) ?_
    refine WL_cons hC.fn (.no (s1 := ⟨_, (23, .tu []) :: _, _⟩) rfl rfl (by decide) rfl (by decide) (fun t ht => by cases ht; exact ⟨blt_lt rfl, blt_lt rfl⟩) (fun t => setE_cons _ _ _ _) rfl rfl) ?_
    refine WL_cons hC.fn (.no (s1 := ⟨_, (24, .tu []) :: _, _⟩) rfl rfl (by decide) rfl (by decide) (fun t ht => by cases ht; exact ⟨blt_lt rfl, blt_lt rfl⟩) (fun t => setE_cons _ _ _ _) rfl rfl) ?_
    refine WL_cons hC.fn (.plain rfl (ox_pick hC (.tmp rfl) .cbool (.tmp rfl) (by first | exact pick_t | exact pick_f | rfl) rfl rfl)) ?_
    refine WL_nil ?_
    refine W_cond rfl (by decide) (fun _ => ?_) (fun hc => by cases hc)
    refine W_seq ?_
    refine W_region ?_
    refine WL_cons hC.fn (.plain rfl (oc_call hC .nil (.same (by first | exact inSL_I _ | simp)) (awake05_c) glob_nil (by first | exact inSL_I _ | simp) (by first | exact .inl rfl | exact .inr (by simp)) rfl rfl)) ?_
    refine WL_cons hC.fn (.plain rfl (oc_assign hC (.tmp rfl) rfl rfl)) ?_
    refine WL_nil ?_
    refine W_ret ?_
    exact fin0 (.cons (.tmp rfl) .nil) rfl trivial
  ·
    refine W_region ?_
    refine WL_cons hC.fn (.plain rfl (oc_move hC (.tmp rfl) rfl rfl)) ?_
    refine WL_cons hC.fn (.plain rfl (ox_len hC (.tmp rfl) (by first | exact .row rfl | exact .vs | exact .sl rfl | exact .nils) Try.underlying33 rfl rfl rfl)) ?_
    refine WL_cons hC.fn (.plain rfl (ox_cmp hC rfl (.tmp rfl) .cint (r := false) (by simp only [cmpI]; exact decide_eq_false (by omega)) rfl rfl)) ?_
    refine WL_cons hC.fn (.plain rfl (oc_move hC (.tmp rfl) rfl rfl)) ?_
    refine WL_cons hC.fn (.yes rfl rfl (by decide) rfl (oc_move hC (.tmp rfl) rfl rfl)) ?_
    refine WL_cons hC.fn (.yes rfl rfl (by decide) rfl (ox_len hC (.tmp rfl) (by first | exact .row rfl | exact .vs | exact .sl rfl | exact .nils) Try.underlying33 rfl rfl rfl)) ?_
    refine WL_cons hC.fn (.yes rfl rfl (by decide) rfl (oc_move hC (.tmp rfl) rfl rfl)) ?_
    refine WL_cons hC.fn (.yes rfl rfl (by decide) rfl (ox_len hC (.tmp rfl) (by first | exact .row rfl | exact .vs | exact .sl rfl | exact .nils) Try.underlying33 rfl rfl rfl)) ?_
    refine WL_cons hC.fn (.yes rfl rfl (by decide) rfl (ox_cmp hC rfl (.tmp rfl) (.tmp rfl) (r := true) (by simp only [cmpI]; exact decide_eq_true (by omega)) rfl rfl)) ?_
    refine WL_cons hC.fn (.plain rfl (ox_pick hC (.tmp rfl) .cbool (.tmp rfl) (by first | exact pick_t | exact pick_f | rfl) rfl rfl)) ?_
    refine WL_nil ?_
    refine W_cond rfl (by decide) (fun _ => ?_) (fun hc => by cases hc)
    refine W_seq ?_
    refine W_region ?_
    refine WL_cons hC.fn (.plain rfl (oc_call hC .nil (.same (by first | exact inSL_I _ | simp)) (awake05_c) glob_nil (by first | exact inSL_I _ | simp) (by first | exact .inl rfl | exact .inr (by simp)) rfl rfl)) ?_
    refine WL_cons hC.fn (.plain rfl (oc_assign hC (.tmp rfl) rfl rfl)) ?_
    refine WL_nil ?_
    refine W_ret ?_
    exact fin0 (.cons (.tmp rfl) .nil) rfl trivial
  ·
    obtain ⟨h, rfl⟩ := h
    have hz8 := B8_zipX a b na
    have hzl := length_zipX a b na
    have h1l : (xorM key n nonce (zipX a b na)).length = na := length_xor.trans hzl
    have h2l : (xorM key n nonce a).length = na := length_xor.trans ha
    refine W_region ?_
    refine WL_cons hC.fn (.plain rfl (oc_move hC (.tmp rfl) rfl rfl)) ?_
    refine WL_cons hC.fn (.plain rfl (ox_len hC (.tmp rfl) (by first | exact .row rfl | exact .vs | exact .sl rfl | exact .nils) Try.underlying33 rfl rfl rfl)) ?_
    refine WL_cons hC.fn (.plain rfl (ox_cmp hC rfl (.tmp rfl) .cint (r := false) (by simp only [cmpI]; exact decide_eq_false (by omega)) rfl rfl)) ?_
    refine WL_cons hC.fn (.plain rfl (oc_move hC (.tmp rfl) rfl rfl)) ?_
    refine WL_cons hC.fn (.yes rfl rfl (by decide) rfl (oc_move hC (.tmp rfl) rfl rfl)) ?_
    refine WL_cons hC.fn (.yes rfl rfl (by decide) rfl (ox_len hC (.tmp rfl) (by first | exact .row rfl | exact .vs | exact .sl rfl | exact .nils) Try.underlying33 rfl rfl rfl)) ?_
    refine WL_cons hC.fn (.yes rfl rfl (by decide) rfl (oc_move hC (.tmp rfl) rfl rfl)) ?_
    refine WL_cons hC.fn (.yes rfl rfl (by decide) rfl (ox_len hC (.tmp rfl) (by first | exact .row rfl | exact .vs | exact .sl rfl | exact .nils) Try.underlying33 rfl rfl rfl)) ?_
    refine WL_cons hC.fn (.yes rfl rfl (by decide) rfl (ox_cmp hC rfl (.tmp rfl) (.tmp rfl) (r := false) (by simp only [cmpI]; exact decide_eq_false (by omega)) rfl rfl)) ?_
    refine WL_cons hC.fn (.plain rfl (ox_pick hC (.tmp rfl) .cbool (.tmp rfl) (by first | exact pick_t | exact pick_f | rfl) rfl rfl)) ?_
    refine WL_nil ?_
    refine W_cond rfl (by decide) (fun hc => by cases hc) (fun _ => ?_)
    refine W_skip ?_
    refine W_seq ?_
    refine W_region ?_
    refine WL_cons hC.fn (.plain rfl (oc_move hC (.tmp rfl) rfl rfl)) ?_
    refine WL_cons hC.fn (.plain rfl (ox_len hC (.tmp rfl) (by first | exact .row rfl | exact .vs | exact .sl rfl | exact .nils) Try.underlying33 rfl rfl rfl)) ?_
    refine WL_cons hC.fn (.plain rfl (ox_make (n := na) (cs' := I .u8 (List.replicate na 0)) hC (.tmp rfl) (.tmp rfl) (by first | rfl | omega) (by first | rfl | omega) Try.underlying33 cells_5 bytes_5 zero_5 (by decide) (by simp only [maxLen]; omega) (by omega) (by first | exact zeros_I | rfl) rfl rfl)) ?_
    refine WL_cons hC.fn (.plain rfl (oc_assign hC (.tmp rfl) rfl rfl)) ?_
    refine WL_nil ?_
    refine W_seq ?_
    refine W_seq ?_
    refine W_region ?_
    refine WL_cons hC.fn (.plain rfl (oc_move hC (.tmp rfl) rfl rfl)) ?_
    refine WL_cons hC.fn (.plain rfl (ox_len hC (.tmp rfl) (by first | exact .row rfl | exact .vs | exact .sl rfl | exact .nils) Try.underlying33 rfl rfl rfl)) ?_
    refine WL_cons hC.fn (.plain rfl (oc_move hC .cint rfl rfl)) ?_
    refine WL_nil ?_
    refine W_blk ?_
    refine W_loopW (fun (ζ : Nat) => ⟨3, [(1, .i .u32 n), (3, .vs na (I .u8 a)), (4, .vs na (I .u8 b)), (5, .p 0 0), (7, .p 1 0), (11, .row 2), (31, .i .i64 na), (32, .i .i64 ζ)], [(0, .blk 29 (I .u8 key)), (1, .blk 30 (I .u8 nonce)), (2, .row 5 1 na (I .u8 (zipP a b na ζ)))]⟩) (fun ζ => ζ ≤ na) (fun ζ => na - ζ) (0) (Nat.zero_le _) (weak (fun k => k) (.cons rfl (by first | rfl | exact congrArg (AV.i _) (by omega) | exact congrArg (AV.i _) (by simp; omega)) trivial (.cons rfl (by first | exact ren_agI | exact ren_vsI | exact ren_free _ _ (by first | exact inSL_I _ | simp)) (by first | exact inSL_I _ | simp) (.cons rfl (by first | exact ren_agI | exact ren_vsI | exact ren_free _ _ (by first | exact inSL_I _ | simp)) (by first | exact inSL_I _ | simp) (.cons rfl (by first | rfl | simp) (by show _ < _; decide) (.cons rfl (by first | rfl | simp) (by show _ < _; decide) (.cons rfl (by first | rfl | simp) (by show _ < _; decide) (.cons rfl (by first | rfl | exact congrArg (AV.i _) (by omega) | exact congrArg (AV.i _) (by simp; omega)) trivial (.cons rfl rfl trivial .nil)))))))) (.cons rfl (by first | exact ren_blkI | exact ren_rowI | exact Blk.ren_free (by simp) _ | rfl) rfl (by first | exact inSL_I _ | simp) (.cons rfl (by first | exact ren_blkI | exact ren_rowI | exact Blk.ren_free (by simp) _ | rfl) rfl (by first | exact inSL_I _ | simp) (.cons rfl (renRow rfl zipP_zero) rfl (by first | exact inSL_I _ | simp) .nil))) rfl rfl rfl) ?_
    intro i hR
    replace hR : i ≤ na := hR
    first | show W _ _ _ ⟨3, [(1, .i .u32 n), (3, .vs na (I .u8 a)), (4, .vs na (I .u8 b)), (5, .p 0 0), (7, .p 1 0), (11, .row 2), (31, .i .i64 na), (32, .i .i64 i)], [(0, .blk 29 (I .u8 key)), (1, .blk 30 (I .u8 nonce)), (2, .row 5 1 na (I .u8 (zipP a b na i)))]⟩ | skip
    have hzp := length_zipP (a := a) (b := b) (m := na) (t := i) (by omega)
    refine W_seq ?_
    refine W_region ?_
    refine WL_cons hC.fn (.plain rfl (ox_cmp hC rfl (.tmp rfl) (.tmp rfl) rfl rfl rfl)) ?_
    refine WL_nil ?_
    refine W_seq ?_
    refine W_cond rfl (by decide) (fun hc => ?_) (fun hc => ?_)
    ·
      replace hc := lss_t hc
      
      refine W_skip ?_
      refine W_seq ?_
      refine W_blk ?_
      refine W_seq ?_
      refine W_region ?_
      refine WL_cons hC.fn (.plain rfl (oc_move hC (.tmp rfl) rfl rfl)) ?_
      refine WL_cons hC.fn (.plain rfl (oc_assign hC (.tmp rfl) rfl rfl)) ?_
      refine WL_nil ?_
      refine W_drawD hC ?_
      refine WD_cons (.plain rfl (oc_move hC (.tmp rfl) rfl rfl)) ?_
      refine WD_cons (.plain rfl (oc_move hC (.tmp rfl) rfl rfl)) ?_
      refine WD_cons (.plain rfl (oc_move hC (.tmp rfl) rfl rfl)) ?_
      refine WD_cons (.plain rfl (oc_move hC (.tmp rfl) rfl rfl)) ?_
      refine WD_cons (.plain rfl (ox_indexS hC  (.tmp rfl) (.tmp rfl) idx_33 (by first | rfl | exact toNat_up (by omega)) (by first | exact Nat.mul_one _ | rfl) (by first | exact .row rfl | exact .sl (Nat.zero_add _) | exact .sl rfl | exact .vs (by first | omega | (simp; omega))) (by first | omega | (simp; omega)) rfl rfl)) ?_
      refine WD_cons (.plain rfl (oc_load hC (.tmp rfl) (by first | exact .p rfl | exact .rp) shp_5 (by exact (unit_I (by first | omega | (simp; omega)))) rfl rfl)) ?_
      refine WD_cons (.plain rfl (oc_move hC (.tmp rfl) rfl rfl)) ?_
      refine WD_cons (.plain rfl (oc_move hC (.tmp rfl) rfl rfl)) ?_
      refine WD_cons (.plain rfl (ox_indexS hC  (.tmp rfl) (.tmp rfl) idx_33 (by first | rfl | exact toNat_up (by omega)) (by first | exact Nat.mul_one _ | rfl) (by first | exact .row rfl | exact .sl (Nat.zero_add _) | exact .sl rfl | exact .vs (by first | omega | (simp; omega))) (by first | omega | (simp; omega)) rfl rfl)) ?_
      refine WD_cons (.plain rfl (oc_load hC (.tmp rfl) (by first | exact .p rfl | exact .rp) shp_5 (by exact (unit_I (by first | omega | (simp; omega)))) rfl rfl)) ?_
      refine WD_cons (.plain rfl (oc_bin hC rfl (.tmp rfl) (.tmp rfl) rfl rfl rfl)) ?_
      refine WD_cons (.plain rfl (ox_indexS hC  (.tmp rfl) (.tmp rfl) idx_33 (by first | rfl | exact toNat_up (by omega)) (by first | exact Nat.mul_one _ | rfl) (by first | exact .row rfl | exact .sl (Nat.zero_add _) | exact .sl rfl | exact .vs (by first | omega | (simp; omega))) (by first | omega | (simp; omega)) rfl rfl)) ?_
      refine WD_cons (.plain rfl (ox_store hC (.tmp rfl) (.tmp rfl) rfl shp_5 (by first | rfl | exact flat_agI) (by first | exact cells1 rfl | (rw [cells_ag, length_I]; omega) | rfl | (simp <;> fail) | (simp; omega)) (by first | exact Nat.le_refl _ | exact Nat.le_of_ble_eq_true rfl | decide | (simp <;> fail) | (simp; omega)) (put_rowI (by omega)) (by first | exact .here | exact .there (.here) rfl | exact .there (.there (.here) rfl) rfl | exact .there (.there (.there (.here) rfl) rfl) rfl | exact .there (.there (.there (.there (.here) rfl) rfl) rfl) rfl | exact .there (.there (.there (.there (.there (.here) rfl) rfl) rfl) rfl) rfl | exact .there (.there (.there (.there (.there (.there (.here) rfl) rfl) rfl) rfl) rfl) rfl | exact .there (.there (.there (.there (.there (.there (.there (.here) rfl) rfl) rfl) rfl) rfl) rfl) rfl | exact .there (.there (.there (.there (.there (.there (.there (.there (.here) rfl) rfl) rfl) rfl) rfl) rfl) rfl) rfl | exact .there (.there (.there (.there (.there (.there (.there (.there (.there (.here) rfl) rfl) rfl) rfl) rfl) rfl) rfl) rfl) rfl) rfl)) ?_
      refine WD_nil (by kernel_rfl) ?_
      refine W_region ?_
      refine WL_cons hC.fn (.plain rfl (oc_bin hC rfl (.tmp rfl) .cint (by first | exact i64_add (by omega) | rfl) rfl rfl)) ?_
      refine WL_cons hC.fn (.plain rfl (oc_move hC (.tmp rfl) rfl rfl)) ?_
      refine WL_nil ?_
      exact ⟨(i + 1), (by omega), (weak (fun k => k) (.cons rfl (by first | rfl | exact congrArg (AV.i _) (by omega) | exact congrArg (AV.i _) (by simp; omega)) trivial (.cons rfl (by first | exact ren_agI | exact ren_vsI | exact ren_free _ _ (by first | exact inSL_I _ | simp)) (by first | exact inSL_I _ | simp) (.cons rfl (by first | exact ren_agI | exact ren_vsI | exact ren_free _ _ (by first | exact inSL_I _ | simp)) (by first | exact inSL_I _ | simp) (.cons rfl (by first | rfl | simp) (by show _ < _; decide) (.cons rfl (by first | rfl | simp) (by show _ < _; decide) (.cons rfl (by first | rfl | simp) (by show _ < _; decide) (.cons rfl (by first | rfl | exact congrArg (AV.i _) (by omega) | exact congrArg (AV.i _) (by simp; omega)) trivial (.cons rfl (by first | rfl | exact congrArg (AV.i _) (by omega) | exact congrArg (AV.i _) (by simp; omega)) trivial .nil)))))))) (.cons rfl (by first | exact ren_blkI | exact ren_rowI | exact Blk.ren_free (by simp) _ | rfl) rfl (by first | exact inSL_I _ | simp) (.cons rfl (by first | exact ren_blkI | exact ren_rowI | exact Blk.ren_free (by simp) _ | rfl) rfl (by first | exact inSL_I _ | simp) (.cons rfl (renRow rfl (zipP_succ (by omega)).symm) rfl (by first | exact inSL_I _ | simp) .nil))) rfl rfl rfl), (by omega)⟩
    ·
      replace hc := lss_f hc
      obtain rfl : i = na := by omega
      rw [zipP_end]
      refine W_exit ?_
      refine W_seq ?_
      refine W_drawD hC ?_
      refine WD_cons (.plain rfl (oc_load hC (.tmp rfl) (by first | exact .p rfl | exact .rp) shp_29 (by first | exact unit_blkI (by first | omega | (simp <;> fail) | (simp; omega)) | exact unit_rowI (by first | omega | (simp; omega)) | exact unit_all (by first | omega | (simp <;> fail) | (simp; omega)) | exact unit_takeI0 (by first | omega | (simp; omega)) | exact unit_takeI (by first | omega | (simp; omega)) | exact unit_agg rfl) rfl rfl)) ?_
      refine WD_cons (.plain rfl (oc_move hC (.tmp rfl) rfl rfl)) ?_
      refine WD_cons (.plain rfl (oc_load hC (.tmp rfl) (by first | exact .p rfl | exact .rp) shp_30 (by first | exact unit_blkI (by first | omega | (simp <;> fail) | (simp; omega)) | exact unit_rowI (by first | omega | (simp; omega)) | exact unit_all (by first | omega | (simp <;> fail) | (simp; omega)) | exact unit_takeI0 (by first | omega | (simp; omega)) | exact unit_takeI (by first | omega | (simp; omega)) | exact unit_agg rfl) rfl rfl)) ?_
      refine WD_cons (.plain rfl (oc_move hC (.tmp rfl) rfl rfl)) ?_
      refine WD_cons (.plain rfl (oc_callN hC (.cons (.tmp rfl) (.cons (.tmp rfl) (.cons (.tmp rfl) (.cons (.tmp rfl) .nil)))) (.cons1 (.free (by first | exact inSL_I _ | simp)) (.cons1 (.free (by first | exact inSL_I _ | simp)) (.cons1 (.free (by first | exact inSL_I _ | simp)) (.cons1 (by first | exact .free (by first | exact inSL_I _ | simp) | exact .row rfl rfl (by first | exact inSL_I _ | simp) | exact .nils | exact .sl1 rfl (by first | exact cut_I | rfl) (by first | exact inSL_I _ | simp)) (.same (by first | exact inSL_I _ | simp)))))) (xor_c _ _ _ _ _ hk hnc hk8 hc8 hn hzl hz8 (by omega)) glob_nil (by first | exact inSL_I _ | simp) rfl (by first | exact .inl rfl | exact .inr ⟨by simp, novsL_I _⟩ | exact .inr ⟨by simp, by simp⟩) rfl rfl)) ?_
      refine WD_cons (.plain rfl (oc_load hC (.tmp rfl) (by first | exact .p rfl | exact .rp) shp_29 (by first | exact unit_blkI (by first | omega | (simp <;> fail) | (simp; omega)) | exact unit_rowI (by first | omega | (simp; omega)) | exact unit_all (by first | omega | (simp <;> fail) | (simp; omega)) | exact unit_takeI0 (by first | omega | (simp; omega)) | exact unit_takeI (by first | omega | (simp; omega)) | exact unit_agg rfl) rfl rfl)) ?_
      refine WD_cons (.plain rfl (oc_move hC (.tmp rfl) rfl rfl)) ?_
      refine WD_cons (.plain rfl (oc_load hC (.tmp rfl) (by first | exact .p rfl | exact .rp) shp_30 (by first | exact unit_blkI (by first | omega | (simp <;> fail) | (simp; omega)) | exact unit_rowI (by first | omega | (simp; omega)) | exact unit_all (by first | omega | (simp <;> fail) | (simp; omega)) | exact unit_takeI0 (by first | omega | (simp; omega)) | exact unit_takeI (by first | omega | (simp; omega)) | exact unit_agg rfl) rfl rfl)) ?_
      refine WD_cons (.plain rfl (oc_move hC (.tmp rfl) rfl rfl)) ?_
      refine WD_cons (.plain rfl (oc_callN hC (.cons (.tmp rfl) (.cons (.tmp rfl) (.cons (.tmp rfl) (.cons (.tmp rfl) .nil)))) (.cons1 (.free (by first | exact inSL_I _ | simp)) (.cons1 (.free (by first | exact inSL_I _ | simp)) (.cons1 (.free (by first | exact inSL_I _ | simp)) (.cons1 (by first | exact .free (by first | exact inSL_I _ | simp) | exact .row rfl rfl (by first | exact inSL_I _ | simp) | exact .nils | exact .sl1 rfl (by first | exact cut_I | rfl) (by first | exact inSL_I _ | simp)) (.same (by first | exact inSL_I _ | simp)))))) (xor_c _ _ _ _ _ hk hnc hk8 hc8 hn ha ha8 (by omega)) glob_nil (by first | exact inSL_I _ | simp) rfl (by first | exact .inl rfl | exact .inr ⟨by simp, novsL_I _⟩ | exact .inr ⟨by simp, by simp⟩) rfl rfl)) ?_
      refine WD_cons (.plain rfl (oc_assign hC (.tmp rfl) rfl rfl)) ?_
      refine WD_cons (.plain rfl (oc_assign hC (.tmp rfl) rfl rfl)) ?_
      refine WD_nil (by kernel_rfl) ?_
      refine W_seq ?_
      refine W_seq ?_
      refine W_region ?_
      refine WL_cons hC.fn (.plain rfl (oc_move hC (.tmp rfl) rfl rfl)) ?_
      refine WL_cons hC.fn (.plain rfl (ox_len hC (.tmp rfl) (by first | exact .row rfl | exact .vs | exact .sl rfl | exact .nils) Try.underlying33 rfl rfl rfl)) ?_
      refine WL_cons hC.fn (.plain rfl (oc_move hC .cint rfl rfl)) ?_
      refine WL_nil ?_
      refine W_blk ?_
      refine W_loopW (fun (ζ : Nat) => ⟨2, [(3, .vs i (I .u8 a)), (4, .vs i (I .u8 b)), (13, .row 0), (14, .row 1), (59, .i .i64 i), (60, .i .i64 ζ)], [(0, .row 5 1 i (I .u8 (xorM key n nonce (zipX a b i)))), (1, .row 5 1 i (I .u8 (xorM key n nonce a)))]⟩) (fun ζ => ζ ≤ i) (fun ζ => i - ζ) (0) (Nat.zero_le _) (weak (fun k => bif Nat.beq k 1 then 4 else bif Nat.beq k 0 then 3 else k) (.cons rfl (by first | exact ren_agI | exact ren_vsI | exact ren_free _ _ (by first | exact inSL_I _ | simp)) (by first | exact inSL_I _ | simp) (.cons rfl (by first | exact ren_agI | exact ren_vsI | exact ren_free _ _ (by first | exact inSL_I _ | simp)) (by first | exact inSL_I _ | simp) (.cons rfl (by first | rfl | simp) (by show _ < _; decide) (.cons rfl (by first | rfl | simp) (by show _ < _; decide) (.cons rfl (by first | rfl | exact congrArg (AV.i _) (by omega) | exact congrArg (AV.i _) (by simp; omega)) trivial (.cons rfl rfl trivial .nil)))))) (.cons rfl (by first | exact ren_blkI | exact ren_rowI | exact Blk.ren_free (by simp) _ | rfl) rfl (by first | exact inSL_I _ | simp) (.cons rfl (by first | exact ren_blkI | exact ren_rowI | exact Blk.ren_free (by simp) _ | rfl) rfl (by first | exact inSL_I _ | simp) .nil)) rfl rfl rfl) ?_
      intro j hR
      replace hR : j ≤ i := hR
      first | show W _ _ _ ⟨2, [(3, .vs i (I .u8 a)), (4, .vs i (I .u8 b)), (13, .row 0), (14, .row 1), (59, .i .i64 i), (60, .i .i64 j)], [(0, .row 5 1 i (I .u8 (xorM key n nonce (zipX a b i)))), (1, .row 5 1 i (I .u8 (xorM key n nonce a)))]⟩ | skip
      refine W_seq ?_
      refine W_region ?_
      refine WL_cons hC.fn (.plain rfl (ox_cmp hC rfl (.tmp rfl) (.tmp rfl) rfl rfl rfl)) ?_
      refine WL_nil ?_
      refine W_seq ?_
      refine W_cond rfl (by decide) (fun hc => ?_) (fun hc => ?_)
      ·
        replace hc := lss_t hc
        
        refine W_skip ?_
        refine W_seq ?_
        refine W_blk ?_
        refine W_seq ?_
        refine W_region ?_
        refine WL_cons hC.fn (.plain rfl (oc_move hC (.tmp rfl) rfl rfl)) ?_
        refine WL_cons hC.fn (.plain rfl (oc_assign hC (.tmp rfl) rfl rfl)) ?_
        refine WL_nil ?_
        refine W_seq ?_
        refine W_drawD hC ?_
        refine WD_cons (.plain rfl (oc_move hC (.tmp rfl) rfl rfl)) ?_
        refine WD_cons (.plain rfl (oc_move hC (.tmp rfl) rfl rfl)) ?_
        refine WD_cons (.plain rfl (ox_indexS hC  (.tmp rfl) (.tmp rfl) idx_33 (by first | rfl | exact toNat_up (by omega)) (by first | exact Nat.mul_one _ | rfl) (by first | exact .row rfl | exact .sl (Nat.zero_add _) | exact .sl rfl | exact .vs (by first | omega | (simp; omega))) (by first | omega | (simp; omega)) rfl rfl)) ?_
        refine WD_cons (.plain rfl (oc_load hC (.tmp rfl) (by first | exact .p rfl | exact .rp) shp_5 (by exact (unit_I (by first | omega | (simp; omega)))) rfl rfl)) ?_
        refine WD_cons (.plain rfl (oc_move hC (.tmp rfl) rfl rfl)) ?_
        refine WD_cons (.plain rfl (oc_move hC (.tmp rfl) rfl rfl)) ?_
        refine WD_cons (.plain rfl (ox_indexS hC  (.tmp rfl) (.tmp rfl) idx_33 (by first | rfl | exact toNat_up (by omega)) (by first | exact Nat.mul_one _ | rfl) (by first | exact .row rfl | exact .sl (Nat.zero_add _) | exact .sl rfl | exact .vs (by first | omega | (simp; omega))) (by first | omega | (simp; omega)) rfl rfl)) ?_
        refine WD_cons (.plain rfl (oc_load hC (.tmp rfl) (by first | exact .p rfl | exact .rp) shp_5 (by exact (unit_I (by first | omega | (simp; omega)))) rfl rfl)) ?_
        refine WD_cons (.plain rfl (oc_move hC (.tmp rfl) rfl rfl)) ?_
        refine WD_cons (.plain rfl (oc_move hC (.tmp rfl) rfl rfl)) ?_
        refine WD_cons (.plain rfl (ox_indexS hC  (.tmp rfl) (.tmp rfl) idx_33 (by first | rfl | exact toNat_up (by omega)) (by first | exact Nat.mul_one _ | rfl) (by first | exact .row rfl | exact .sl (Nat.zero_add _) | exact .sl rfl | exact .vs (by first | omega | (simp; omega))) (by first | omega | (simp; omega)) rfl rfl)) ?_
        refine WD_cons (.plain rfl (oc_load hC (.tmp rfl) (by first | exact .p rfl | exact .rp) shp_5 (by exact (unit_I (by first | omega | (simp; omega)))) rfl rfl)) ?_
        refine WD_cons (.plain rfl (oc_bin hC rfl (.tmp rfl) (.tmp rfl) rfl rfl rfl)) ?_
        refine WD_cons (.plain rfl (ox_cmp hC rfl (.tmp rfl) (.tmp rfl) (r := false) (by rw [xor_line ha8 hb8 ha (by omega)]; simp [cmpI]) rfl rfl)) ?_
        refine WD_nil (by kernel_rfl) ?_
        refine W_cond rfl (by decide) (fun hc => by cases hc) (fun _ => ?_)
        refine W_skip ?_
        refine W_region ?_
        refine WL_cons hC.fn (.plain rfl (oc_bin hC rfl (.tmp rfl) .cint (by first | exact i64_add (by omega) | rfl) rfl rfl)) ?_
        refine WL_cons hC.fn (.plain rfl (oc_move hC (.tmp rfl) rfl rfl)) ?_
        refine WL_nil ?_
        exact ⟨(j + 1), (by omega), (weak (fun k => k) (.cons rfl (by first | exact ren_agI | exact ren_vsI | exact ren_free _ _ (by first | exact inSL_I _ | simp)) (by first | exact inSL_I _ | simp) (.cons rfl (by first | exact ren_agI | exact ren_vsI | exact ren_free _ _ (by first | exact inSL_I _ | simp)) (by first | exact inSL_I _ | simp) (.cons rfl (by first | rfl | simp) (by show _ < _; decide) (.cons rfl (by first | rfl | simp) (by show _ < _; decide) (.cons rfl (by first | rfl | exact congrArg (AV.i _) (by omega) | exact congrArg (AV.i _) (by simp; omega)) trivial (.cons rfl (by first | rfl | exact congrArg (AV.i _) (by omega) | exact congrArg (AV.i _) (by simp; omega)) trivial .nil)))))) (.cons rfl (by first | exact ren_blkI | exact ren_rowI | exact Blk.ren_free (by simp) _ | rfl) rfl (by first | exact inSL_I _ | simp) (.cons rfl (by first | exact ren_blkI | exact ren_rowI | exact Blk.ren_free (by simp) _ | rfl) rfl (by first | exact inSL_I _ | simp) .nil)) rfl rfl rfl), (by omega)⟩
      ·
        replace hc := lss_f hc
        obtain rfl : j = i := by omega
        refine W_exit ?_
        refine W_seq ?_
        refine W_region ?_
        refine WL_cons hC.fn (.plain rfl (oc_move hC (.tmp rfl) rfl rfl)) ?_
        refine WL_cons hC.fn (.plain rfl (ox_len hC (.tmp rfl) (by first | exact .row rfl | exact .vs | exact .sl rfl | exact .nils) Try.underlying33 rfl rfl rfl)) ?_
        refine WL_cons hC.fn (.plain rfl (oc_move hC (.tmp rfl) rfl rfl)) ?_
        refine WL_cons hC.fn (.plain rfl (ox_len hC (.tmp rfl) (by first | exact .row rfl | exact .vs | exact .sl rfl | exact .nils) Try.underlying33 rfl rfl rfl)) ?_
        refine WL_cons hC.fn (.plain rfl (ox_cmp hC rfl (.tmp rfl) (.tmp rfl) (r := true) (by simp [cmpI]) rfl rfl)) ?_
        refine WL_cons hC.fn (.plain rfl (oc_move hC (.tmp rfl) rfl rfl)) ?_
        refine WL_cons hC.fn (.yes rfl rfl (by decide) rfl (oc_move hC (.tmp rfl) rfl rfl)) ?_
        refine WL_cons hC.fn (.yes rfl rfl (by decide) rfl (ox_len hC (.tmp rfl) (by first | exact .row rfl | exact .vs | exact .sl rfl | exact .nils) Try.underlying33 rfl rfl rfl)) ?_
        refine WL_cons hC.fn (.yes rfl rfl (by decide) rfl (oc_move hC (.tmp rfl) rfl rfl)) ?_
        refine WL_cons hC.fn (.yes rfl rfl (by decide) rfl (ox_len hC (.tmp rfl) (by first | exact .row rfl | exact .vs | exact .sl rfl | exact .nils) Try.underlying33 rfl rfl rfl)) ?_
        refine WL_cons hC.fn (.yes rfl rfl (by decide) rfl (ox_cmp hC rfl (.tmp rfl) (.tmp rfl) (r := true) (by simp [cmpI]) rfl rfl)) ?_
        refine WL_cons hC.fn (.plain rfl (ox_pick hC (.tmp rfl) (.tmp rfl) .cbool (by first | exact pick_t | exact pick_f | rfl) rfl rfl)) ?_
        refine WL_cons hC.fn (.plain rfl (oc_move hC (.tmp rfl) rfl rfl)) ?_
        refine WL_cons hC.fn (.yes rfl rfl (by decide) rfl (oc_call hC .nil (.same (by first | exact inSL_I _ | simp)) (awake05_c) glob_nil (by first | exact inSL_I _ | simp) (by first | exact .inl rfl | exact .inr (by simp)) rfl rfl)) ?_
        refine WL_cons hC.fn (.plain rfl (ox_pick hC (.tmp rfl) (.tmp rfl) .cbool (by first | exact pick_t | exact pick_f | rfl) rfl rfl)) ?_
        refine WL_cons hC.fn (.plain rfl (oc_assign hC (.tmp rfl) rfl rfl)) ?_
        refine WL_nil ?_
        refine W_ret ?_
        exact fin0 (.cons (.tmp rfl) .nil) rfl trivial
set_option maxRecDepth 20000 in
set_option maxHeartbeats 4000000 in
theorem law_StreamNoughts (mo : Nat) (key nonce : List Int) (n : Int) (hk : key.length = 32) (hnc : nonce.length = 12) (hk8 : B8 key) (hc8 : B8 nonce) (hn : 0 ≤ n ∧ n < 4294967296) (hmo : mo < 65536) : FnC Try.prog 9 [] [.ag (I .u8 key), .i .u32 n, .ag (I .u8 nonce), .i .u16 mo] [] [] (.b true) := by
  obtain ⟨k, hk0⟩ : ∃ k, mo % 300 = k := ⟨_, rfl⟩
  have hkl : k < 300 := by omega
  have hxl : (xorM key n nonce (List.replicate k 0)).length = k := length_xor.trans (by simp)
  refine FnC.introR (N0 := 0) (T := 52) (E := [(0, .ag (I .u8 key)), (1, .i .u32 n), (2, .ag (I .u8 nonce)), (3, .i .u16 mo)]) Try.func9 rfl (by decide) mix rfl rfl rfl (by simp) rfl ⟨(by first | exact inSL_I _ | trivial | simp), (by first | exact inSL_I _ | trivial | simp), (by first | exact inSL_I _ | trivial | simp), (by first | exact inSL_I _ | trivial | simp), trivial⟩ (by simp) (by intro S _ _ h; simp) (fun F n0 X w ρ hC hro => ?_)
  refine W_seq ?_
  refine W_region ?_
  refine WL_cons hC.fn (.plain rfl (ox_box hC (.tmp rfl) (by first | rfl | exact flat_agI) (by first | exact cells_ag | rfl) rfl rfl)) ?_
  refine WL_cons hC.fn (.plain rfl (ox_box hC (.tmp rfl) (by first | rfl | exact flat_agI) (by first | exact cells_ag | rfl) rfl rfl)) ?_
  refine WL_cons hC.fn (.plain rfl (oc_assign hC .cbool rfl rfl)) ?_
  refine WL_nil ?_
  refine W_seq ?_
  refine W_region ?_
  refine WL_cons hC.fn (.plain rfl (oc_move hC (.tmp rfl) rfl rfl)) ?_
  refine WL_cons hC.fn (.plain rfl (oc_conv hC (.tmp rfl) rfl Try.underlying3 (by first | exact i64_conv (by omega) | rfl) rfl rfl)) ?_
  refine WL_cons hC.fn (.plain rfl (oc_div hC (.inr rfl) (.tmp rfl) .cint (by first | decide | omega) (r := ((mo % 300 : Nat) : Int)) (nrem (y := 300)) rfl rfl)) ?_
  refine WL_cons hC.fn (.plain rfl (oc_assign hC (.tmp rfl) rfl rfl)) ?_
  rw [hk0]
  refine WL_nil ?_
  refine W_seq ?_
  refine W_drawD hC ?_
  refine WD_cons (.plain rfl (oc_load hC (.tmp rfl) (by first | exact .p rfl | exact .rp) shp_29 (by first | exact unit_blkI (by first | omega | (simp <;> fail) | (simp; omega)) | exact unit_rowI (by first | omega | (simp; omega)) | exact unit_all (by first | omega | (simp <;> fail) | (simp; omega)) | exact unit_takeI0 (by first | omega | (simp; omega)) | exact unit_takeI (by first | omega | (simp; omega)) | exact unit_agg rfl) rfl rfl)) ?_
  refine WD_cons (.plain rfl (oc_move hC (.tmp rfl) rfl rfl)) ?_
  refine WD_cons (.plain rfl (oc_load hC (.tmp rfl) (by first | exact .p rfl | exact .rp) shp_30 (by first | exact unit_blkI (by first | omega | (simp <;> fail) | (simp; omega)) | exact unit_rowI (by first | omega | (simp; omega)) | exact unit_all (by first | omega | (simp <;> fail) | (simp; omega)) | exact unit_takeI0 (by first | omega | (simp; omega)) | exact unit_takeI (by first | omega | (simp; omega)) | exact unit_agg rfl) rfl rfl)) ?_
  refine WD_cons (.plain rfl (oc_move hC (.tmp rfl) rfl rfl)) ?_
  refine WD_cons (.plain rfl (ox_make (n := k) (cs' := I .u8 (List.replicate k 0)) hC (.tmp rfl) (.tmp rfl) (by first | rfl | omega) (by first | rfl | omega) Try.underlying33 cells_5 bytes_5 zero_5 (by decide) (by simp only [maxLen]; omega) (by omega) (by first | exact zeros_I | rfl) rfl rfl)) ?_
  refine WD_cons (.plain rfl (oc_callN hC (.cons (.tmp rfl) (.cons (.tmp rfl) (.cons (.tmp rfl) (.cons (.tmp rfl) .nil)))) (.cons1 (.free (by first | exact inSL_I _ | simp)) (.cons1 (.free (by first | exact inSL_I _ | simp)) (.cons1 (.free (by first | exact inSL_I _ | simp)) (.cons1 (by first | exact .free (by first | exact inSL_I _ | simp) | exact .row rfl rfl (by first | exact inSL_I _ | simp) | exact .nils | exact .sl1 rfl (by first | exact cut_I | rfl) (by first | exact inSL_I _ | simp)) (.same (by first | exact inSL_I _ | simp)))))) (xor_c _ _ _ _ _ hk hnc hk8 hc8 hn (by simp) (B8_zeros _) (by omega)) glob_nil (by first | exact inSL_I _ | simp) rfl (by first | exact .inl rfl | exact .inr ⟨by simp, novsL_I _⟩ | exact .inr ⟨by simp, by simp⟩) rfl rfl)) ?_
  refine WD_cons (.plain rfl (oc_assign hC (.tmp rfl) rfl rfl)) ?_
  refine WD_nil (by kernel_rfl) ?_
  refine W_seq ?_
  refine W_seq ?_
  refine W_region ?_
  refine WL_cons hC.fn (.plain rfl (oc_move hC (.tmp rfl) rfl rfl)) ?_
  refine WL_cons hC.fn (.plain rfl (ox_len hC (.tmp rfl) (by first | exact .row rfl | exact .vs | exact .sl rfl | exact .nils) Try.underlying33 rfl rfl rfl)) ?_
  refine WL_cons hC.fn (.plain rfl (oc_move hC .cint rfl rfl)) ?_
  refine WL_nil ?_
  refine W_blk ?_
  refine W_loopW (fun (ζ : Nat) => ⟨3, [(1, .i .u32 n), (4, .p 0 0), (6, .p 1 0), (9, .i .i64 k), (10, .row 2), (23, .i .i64 k), (24, .i .i64 ζ)], [(0, .blk 29 (I .u8 key)), (1, .blk 30 (I .u8 nonce)), (2, .row 5 1 k (I .u8 (xorM key n nonce (List.replicate k 0))))]⟩) (fun ζ => ζ ≤ k) (fun ζ => k - ζ) (0) (Nat.zero_le _) (weak (fun k => bif Nat.beq k 2 then 3 else k) (.cons rfl (by first | rfl | exact congrArg (AV.i _) (by omega) | exact congrArg (AV.i _) (by simp; omega)) trivial (.cons rfl (by first | rfl | simp) (by show _ < _; decide) (.cons rfl (by first | rfl | simp) (by show _ < _; decide) (.cons rfl (by first | rfl | exact congrArg (AV.i _) (by omega) | exact congrArg (AV.i _) (by simp; omega)) trivial (.cons rfl (by first | rfl | simp) (by show _ < _; decide) (.cons rfl (by first | rfl | exact congrArg (AV.i _) (by omega) | exact congrArg (AV.i _) (by simp; omega)) trivial (.cons rfl rfl trivial .nil))))))) (.cons rfl (by first | exact ren_blkI | exact ren_rowI | exact Blk.ren_free (by simp) _ | rfl) rfl (by first | exact inSL_I _ | simp) (.cons rfl (by first | exact ren_blkI | exact ren_rowI | exact Blk.ren_free (by simp) _ | rfl) rfl (by first | exact inSL_I _ | simp) (.cons rfl (by first | exact ren_blkI | exact ren_rowI | exact Blk.ren_free (by simp) _ | rfl) rfl (by first | exact inSL_I _ | simp) .nil))) rfl rfl rfl) ?_
  intro i hR
  replace hR : i ≤ k := hR
  first | show W _ _ _ ⟨3, [(1, .i .u32 n), (4, .p 0 0), (6, .p 1 0), (9, .i .i64 k), (10, .row 2), (23, .i .i64 k), (24, .i .i64 i)], [(0, .blk 29 (I .u8 key)), (1, .blk 30 (I .u8 nonce)), (2, .row 5 1 k (I .u8 (xorM key n nonce (List.replicate k 0))))]⟩ | skip
  have hlb := length_blk key (nn n (i / 64)) nonce
  have hnn := nn_range (n := n) (i := i / 64)
  refine W_seq ?_
  refine W_region ?_
  refine WL_cons hC.fn (.plain rfl (ox_cmp hC rfl (.tmp rfl) (.tmp rfl) rfl rfl rfl)) ?_
  refine WL_nil ?_
  refine W_seq ?_
  refine W_cond rfl (by decide) (fun hc => ?_) (fun hc => ?_)
  ·
    replace hc := lss_t hc
    
    refine W_skip ?_
    refine W_seq ?_
    refine W_blk ?_
    refine W_seq ?_
    refine W_region ?_
    refine WL_cons hC.fn (.plain rfl (oc_move hC (.tmp rfl) rfl rfl)) ?_
    refine WL_cons hC.fn (.plain rfl (oc_assign hC (.tmp rfl) rfl rfl)) ?_
    refine WL_nil ?_
    refine W_seq ?_
    refine W_region ?_
    refine WL_cons hC.fn (.plain rfl (oc_load hC (.tmp rfl) (by first | exact .p rfl | exact .rp) shp_29 (by first | exact unit_blkI (by first | omega | (simp <;> fail) | (simp; omega)) | exact unit_rowI (by first | omega | (simp; omega)) | exact unit_all (by first | omega | (simp <;> fail) | (simp; omega)) | exact unit_takeI0 (by first | omega | (simp; omega)) | exact unit_takeI (by first | omega | (simp; omega)) | exact unit_agg rfl) rfl rfl)) ?_
    refine WL_cons hC.fn (.plain rfl (oc_move hC (.tmp rfl) rfl rfl)) ?_
    refine WL_cons hC.fn (.plain rfl (oc_move hC (.tmp rfl) rfl rfl)) ?_
    refine WL_cons hC.fn (.plain rfl (oc_div hC (.inl rfl) (.tmp rfl) .cint (by first | decide | omega) (r := ((i / 64 : Nat) : Int)) (nquo (y := 64) (by omega) (by decide)) rfl rfl)) ?_
    refine WL_cons hC.fn (.plain rfl (oc_conv hC (.tmp rfl) rfl Try.underlying22 (r := IntKind.u32.wrap ((i / 64 : Nat) : Int)) rfl rfl rfl)) ?_
    refine WL_cons hC.fn (.plain rfl (oc_bin hC rfl (.tmp rfl) (.tmp rfl) (r := nn n (i / 64)) u32_nn rfl rfl)) ?_
    refine WL_cons hC.fn (.plain rfl (oc_load hC (.tmp rfl) (by first | exact .p rfl | exact .rp) shp_30 (by first | exact unit_blkI (by first | omega | (simp <;> fail) | (simp; omega)) | exact unit_rowI (by first | omega | (simp; omega)) | exact unit_all (by first | omega | (simp <;> fail) | (simp; omega)) | exact unit_takeI0 (by first | omega | (simp; omega)) | exact unit_takeI (by first | omega | (simp; omega)) | exact unit_agg rfl) rfl rfl)) ?_
    refine WL_cons hC.fn (.plain rfl (oc_call hC (.cons (.tmp rfl) (.cons (.tmp rfl) (.cons (.tmp rfl) .nil))) (.cons1 (.free (by first | exact inSL_I _ | simp)) (.cons1 (.free (by first | exact inSL_I _ | simp)) (.cons1 (.free (by first | exact inSL_I _ | simp)) (.same (by first | exact inSL_I _ | simp))))) (block_c _ _ _ hk hnc hk8 hc8 hnn) glob_nil (by first | exact inSL_I _ | simp) (by first | exact .inl rfl | exact .inr (by simp)) rfl rfl)) ?_
    refine WL_cons hC.fn (.plain rfl (ox_alloc hC zero_31 rfl rfl rfl)) ?_
    refine WL_cons hC.fn (.plain rfl (ox_store hC (.tmp rfl) (.tmp rfl) rfl shp_31 (by first | rfl | exact flat_agI) (by rw [cells_ag, length_I, hlb]) (by first | exact Nat.le_refl _ | exact Nat.le_of_ble_eq_true rfl | decide | (simp <;> fail) | (simp; omega)) (put_allI (by rw [hlb]; rfl)) (by first | exact .here | exact .there (.here) rfl | exact .there (.there (.here) rfl) rfl | exact .there (.there (.there (.here) rfl) rfl) rfl | exact .there (.there (.there (.there (.here) rfl) rfl) rfl) rfl | exact .there (.there (.there (.there (.there (.here) rfl) rfl) rfl) rfl) rfl | exact .there (.there (.there (.there (.there (.there (.here) rfl) rfl) rfl) rfl) rfl) rfl | exact .there (.there (.there (.there (.there (.there (.there (.here) rfl) rfl) rfl) rfl) rfl) rfl) rfl | exact .there (.there (.there (.there (.there (.there (.there (.there (.here) rfl) rfl) rfl) rfl) rfl) rfl) rfl) rfl | exact .there (.there (.there (.there (.there (.there (.there (.there (.there (.here) rfl) rfl) rfl) rfl) rfl) rfl) rfl) rfl) rfl) rfl)) ?_
    refine WL_nil ?_
    refine W_seq ?_
    refine W_drawD hC ?_
    refine WD_cons (.plain rfl (oc_move hC (.tmp rfl) rfl rfl)) ?_
    refine WD_cons (.plain rfl (oc_move hC (.tmp rfl) rfl rfl)) ?_
    refine WD_cons (.plain rfl (ox_indexS hC  (.tmp rfl) (.tmp rfl) idx_33 (by first | rfl | exact toNat_up (by omega)) (by first | exact Nat.mul_one _ | rfl) (by first | exact .row rfl | exact .sl (Nat.zero_add _) | exact .sl rfl | exact .vs (by first | omega | (simp; omega))) (by first | omega | (simp; omega)) rfl rfl)) ?_
    refine WD_cons (.plain rfl (oc_load hC (.tmp rfl) (by first | exact .p rfl | exact .rp) shp_5 (by exact (unit_I (by first | omega | (simp; omega)))) rfl rfl)) ?_
    refine WD_cons (.plain rfl (oc_move hC (.tmp rfl) rfl rfl)) ?_
    refine WD_cons (.plain rfl (oc_div hC (.inr rfl) (.tmp rfl) .cint (by first | decide | omega) (r := ((i % 64 : Nat) : Int)) (nrem (y := 64)) rfl rfl)) ?_
    refine WD_cons (.plain rfl (ox_indexA hC  (.tmp rfl) (.tmp rfl) idx_31 (by first | rfl | exact toNat_up (by omega)) (by first | omega | (simp; omega)) (by first | exact Nat.mul_one _ | rfl) (by first | exact .p (Nat.zero_add _) | exact .p rfl | exact .rp (by first | omega | (simp; omega))) rfl rfl)) ?_
    refine WD_cons (.plain rfl (oc_load hC (.tmp rfl) (by first | exact .p rfl | exact .rp) shp_5 (by exact (unit_I (by first | omega | (simp; omega)))) rfl rfl)) ?_
    refine WD_cons (.plain rfl (ox_cmp hC rfl (.tmp rfl) (.tmp rfl) (r := false) (by rw [xor_noughts (by omega)]; simp [cmpI]) rfl rfl)) ?_
    refine WD_nil (by kernel_rfl) ?_
    refine W_cond rfl (by decide) (fun hc => by cases hc) (fun _ => ?_)
    refine W_skip ?_
    refine W_region ?_
    refine WL_cons hC.fn (.plain rfl (oc_bin hC rfl (.tmp rfl) .cint (by first | exact i64_add (by omega) | rfl) rfl rfl)) ?_
    refine WL_cons hC.fn (.plain rfl (oc_move hC (.tmp rfl) rfl rfl)) ?_
    refine WL_nil ?_
    exact ⟨(i + 1), (by omega), (weak (fun k => k) (.cons rfl (by first | rfl | exact congrArg (AV.i _) (by omega) | exact congrArg (AV.i _) (by simp; omega)) trivial (.cons rfl (by first | rfl | simp) (by show _ < _; decide) (.cons rfl (by first | rfl | simp) (by show _ < _; decide) (.cons rfl (by first | rfl | exact congrArg (AV.i _) (by omega) | exact congrArg (AV.i _) (by simp; omega)) trivial (.cons rfl (by first | rfl | simp) (by show _ < _; decide) (.cons rfl (by first | rfl | exact congrArg (AV.i _) (by omega) | exact congrArg (AV.i _) (by simp; omega)) trivial (.cons rfl (by first | rfl | exact congrArg (AV.i _) (by omega) | exact congrArg (AV.i _) (by simp; omega)) trivial .nil))))))) (.cons rfl (by first | exact ren_blkI | exact ren_rowI | exact Blk.ren_free (by simp) _ | rfl) rfl (by first | exact inSL_I _ | simp) (.cons rfl (by first | exact ren_blkI | exact ren_rowI | exact Blk.ren_free (by simp) _ | rfl) rfl (by first | exact inSL_I _ | simp) (.cons rfl (by first | exact ren_blkI | exact ren_rowI | exact Blk.ren_free (by simp) _ | rfl) rfl (by first | exact inSL_I _ | simp) .nil))) rfl rfl rfl), (by omega)⟩
  ·
    replace hc := lss_f hc
    obtain rfl : i = k := by omega
    refine W_exit ?_
    refine W_seq ?_
    refine W_region ?_
    refine WL_cons hC.fn (.plain rfl (oc_move hC (.tmp rfl) rfl rfl)) ?_
    refine WL_cons hC.fn (.plain rfl (ox_len hC (.tmp rfl) (by first | exact .row rfl | exact .vs | exact .sl rfl | exact .nils) Try.underlying33 rfl rfl rfl)) ?_
    refine WL_cons hC.fn (.plain rfl (oc_move hC (.tmp rfl) rfl rfl)) ?_
    refine WL_cons hC.fn (.plain rfl (ox_cmp hC rfl (.tmp rfl) (.tmp rfl) (r := true) (by simp [cmpI]) rfl rfl)) ?_
    refine WL_cons hC.fn (.plain rfl (oc_move hC (.tmp rfl) rfl rfl)) ?_
    refine WL_cons hC.fn (.yes rfl rfl (by decide) rfl (oc_call hC .nil (.same (by first | exact inSL_I _ | simp)) (awake05_c) glob_nil (by first | exact inSL_I _ | simp) (by first | exact .inl rfl | exact .inr (by simp)) rfl rfl)) ?_
    refine WL_cons hC.fn (.plain rfl (ox_pick hC (.tmp rfl) (.tmp rfl) .cbool (by first | exact pick_t | exact pick_f | rfl) rfl rfl)) ?_
    refine WL_cons hC.fn (.plain rfl (oc_assign hC (.tmp rfl) rfl rfl)) ?_
    refine WL_nil ?_
    refine W_ret ?_
    exact fin0 (.cons (.tmp rfl) .nil) rfl trivial
set_option maxRecDepth 20000 in
set_option maxHeartbeats 4000000 in
theorem law_StreamBlocks (mo : Nat) (key nonce : List Int) (n : Int) (hk : key.length = 32) (hnc : nonce.length = 12) (hk8 : B8 key) (hc8 : B8 nonce) (hn : 0 ≤ n ∧ n < 4294967296) (hmo : mo < 256) : FnC Try.prog 4 [] [.ag (I .u8 key), .i .u32 n, .ag (I .u8 nonce), .i .u8 mo] [] [] (.b true) := by
  have hlb := length_blk key n nonce
  refine FnC.introR (N0 := 0) (T := 59) (E := [(0, .ag (I .u8 key)), (1, .i .u32 n), (2, .ag (I .u8 nonce)), (3, .i .u8 mo)]) Try.func4 rfl (by decide) mix rfl rfl rfl (by simp) rfl ⟨(by first | exact inSL_I _ | trivial | simp), (by first | exact inSL_I _ | trivial | simp), (by first | exact inSL_I _ | trivial | simp), (by first | exact inSL_I _ | trivial | simp), trivial⟩ (by simp) (by intro S _ _ h; simp) (fun F n0 X w ρ hC hro => ?_)
  refine W_seq ?_
  refine W_region ?_
  refine WL_cons hC.fn (.plain rfl (ox_box hC (.tmp rfl) (by first | rfl | exact flat_agI) (by first | exact cells_ag | rfl) rfl rfl)) ?_
  refine WL_cons hC.fn (.plain rfl (ox_box hC (.tmp rfl) (by first | rfl | exact flat_agI) (by first | exact cells_ag | rfl) rfl rfl)) ?_
  refine WL_cons hC.fn (.plain rfl (ox_box hC (.tmp rfl) (by first | rfl | exact flat_agI) (by first | exact cells_ag | rfl) rfl rfl)) ?_
  refine WL_cons hC.fn (.plain rfl (ox_box hC (.tmp rfl) (by first | rfl | exact flat_agI) (by first | exact cells_ag | rfl) rfl rfl)) ?_
  refine WL_cons hC.fn (.plain rfl (ox_alloc hC zero_4 rfl rfl rfl)) ?_
  refine WL_nil ?_
  refine W_seq ?_
  refine W_region ?_
  refine WL_cons hC.fn (.plain rfl (oc_load hC (.tmp rfl) (by first | exact .p rfl | exact .rp) shp_29 (by first | exact unit_blkI (by first | omega | (simp <;> fail) | (simp; omega)) | exact unit_rowI (by first | omega | (simp; omega)) | exact unit_all (by first | omega | (simp <;> fail) | (simp; omega)) | exact unit_takeI0 (by first | omega | (simp; omega)) | exact unit_takeI (by first | omega | (simp; omega)) | exact unit_agg rfl) rfl rfl)) ?_
  refine WL_cons hC.fn (.plain rfl (oc_load hC (.tmp rfl) (by first | exact .p rfl | exact .rp) shp_22 (by first | exact unit_one rfl | exact unit_I (by first | omega | (simp; omega)) | exact unit_c rfl (by decide) | exact unit_c rfl (by simp)) rfl rfl)) ?_
  refine WL_cons hC.fn (.plain rfl (oc_load hC (.tmp rfl) (by first | exact .p rfl | exact .rp) shp_30 (by first | exact unit_blkI (by first | omega | (simp <;> fail) | (simp; omega)) | exact unit_rowI (by first | omega | (simp; omega)) | exact unit_all (by first | omega | (simp <;> fail) | (simp; omega)) | exact unit_takeI0 (by first | omega | (simp; omega)) | exact unit_takeI (by first | omega | (simp; omega)) | exact unit_agg rfl) rfl rfl)) ?_
  refine WL_cons hC.fn (.plain rfl (oc_call hC (.cons (.tmp rfl) (.cons (.tmp rfl) (.cons (.tmp rfl) .nil))) (.cons1 (.free (by first | exact inSL_I _ | simp)) (.cons1 (.free (by first | exact inSL_I _ | simp)) (.cons1 (.free (by first | exact inSL_I _ | simp)) (.same (by first | exact inSL_I _ | simp))))) (block_c _ _ _ hk hnc hk8 hc8 hn) glob_nil (by first | exact inSL_I _ | simp) (by first | exact .inl rfl | exact .inr (by simp)) rfl rfl)) ?_
  refine WL_cons hC.fn (.plain rfl (ox_alloc hC zero_31 rfl rfl rfl)) ?_
  refine WL_cons hC.fn (.plain rfl (ox_store hC (.tmp rfl) (.tmp rfl) rfl shp_31 (by first | rfl | exact flat_agI) (by rw [cells_ag, length_I, hlb]) (by first | exact Nat.le_refl _ | exact Nat.le_of_ble_eq_true rfl | decide | (simp <;> fail) | (simp; omega)) (put_allI (by rw [hlb]; rfl)) (by first | exact .here | exact .there (.here) rfl | exact .there (.there (.here) rfl) rfl | exact .there (.there (.there (.here) rfl) rfl) rfl | exact .there (.there (.there (.there (.here) rfl) rfl) rfl) rfl | exact .there (.there (.there (.there (.there (.here) rfl) rfl) rfl) rfl) rfl | exact .there (.there (.there (.there (.there (.there (.here) rfl) rfl) rfl) rfl) rfl) rfl | exact .there (.there (.there (.there (.there (.there (.there (.here) rfl) rfl) rfl) rfl) rfl) rfl) rfl | exact .there (.there (.there (.there (.there (.there (.there (.there (.here) rfl) rfl) rfl) rfl) rfl) rfl) rfl) rfl | exact .there (.there (.there (.there (.there (.there (.there (.there (.there (.here) rfl) rfl) rfl) rfl) rfl) rfl) rfl) rfl) rfl) rfl)) ?_
  refine WL_nil ?_
  refine W_seq ?_
  refine W_seq ?_
  refine W_drawD hC ?_
  refine WD_cons (.plain rfl (ox_cutA hC (.tmp rfl) .no .no idx_31 (by first | omega | (simp; omega)) (by first | omega | (simp; omega)) (by first | exact .p (by first | (simp <;> fail) | rfl) | exact .rp (by first | omega | (simp; omega))) (by first | exact cut_vsI | rfl) rfl rfl)) ?_
  refine WD_cons (.plain rfl (ox_b2s (l := (blkM key n nonce)) hC (.tmp rfl) (by first | exact .row rfl | exact .vs | exact .sl rfl | exact .nils) (by rw [List.drop_zero]; exact take_allI hlb) hlb Try.underlying33 Try.underlying5 Try.underlying9 rfl rfl)) ?_
  refine WD_cons (.plain rfl (ox_cutA hC (.tmp rfl) .no .no idx_29 (by first | omega | (simp; omega)) (by first | omega | (simp; omega)) (by first | exact .p (by first | (simp <;> fail) | rfl) | exact .rp (by first | omega | (simp; omega))) (by first | exact cut_vsI | rfl) rfl rfl)) ?_
  refine WD_cons (.plain rfl (oc_load hC (.tmp rfl) (by first | exact .p rfl | exact .rp) shp_22 (by first | exact unit_one rfl | exact unit_I (by first | omega | (simp; omega)) | exact unit_c rfl (by decide) | exact unit_c rfl (by simp)) rfl rfl)) ?_
  refine WD_cons (.plain rfl (oc_conv hC (.tmp rfl) rfl Try.underlying3 (by first | exact i64_conv (by omega) | rfl) rfl rfl)) ?_
  refine WD_cons (.plain rfl (ox_cutA hC (.tmp rfl) .no .no idx_30 (by first | omega | (simp; omega)) (by first | omega | (simp; omega)) (by first | exact .p (by first | (simp <;> fail) | rfl) | exact .rp (by first | omega | (simp; omega))) (by first | exact cut_vsI | rfl) rfl rfl)) ?_
  refine WD_cons (.plain rfl (oc_callN hC (.cons (.tmp rfl) (.cons (.tmp rfl) (.cons (.tmp rfl) .nil))) (.sl (m := 32) rfl (by rw [List.drop_zero]; exact take_allI hk) (by intro h; cases h) (.same (inSL_I _)) (.free trivial (.sl (m := 12) rfl (by rw [List.drop_zero]; exact take_allI hnc) (by intro h; cases h) (.same (inSL_I _)) (.same trivial)))) (rblock_c _ _ _ hk hnc hk8 hc8 hn) glob_nil (by first | exact inSL_I _ | simp) rfl (by first | exact .inl rfl | exact .inr ⟨by simp, novsL_I _⟩ | exact .inr ⟨by simp, by simp⟩) rfl rfl)) ?_
  refine WD_cons (.plain rfl (ox_b2s hC (.tmp rfl) (by first | exact .row rfl | exact .vs | exact .sl rfl | exact .nils) (by first | exact take_allI (by first | assumption | rfl | (simp; omega) | omega) | exact take_cutI | exact take_takeI) (by first | assumption | rfl | omega | (simp; omega)) Try.underlying33 Try.underlying5 Try.underlying9 rfl rfl)) ?_
  refine WD_cons (.plain rfl (ox_eqs hC (.inr rfl) (.tmp rfl) (.tmp rfl) (r := false) (by simp) rfl rfl)) ?_
  refine WD_nil (by kernel_rfl) ?_
  refine W_cond rfl (by decide) (fun hc => by cases hc) (fun _ => ?_)
  refine W_skip ?_
  refine W_seq ?_
  refine W_region ?_
  refine WL_cons hC.fn (.plain rfl (ox_alloc hC zero_3 rfl rfl rfl)) ?_
  refine WL_cons hC.fn (.plain rfl (ox_store hC (.tmp rfl) .cint rfl shp_3 (by first | rfl | exact flat_agI) (by first | exact cells1 rfl | (rw [cells_ag, length_I]; omega) | rfl | (simp <;> fail) | (simp; omega)) (by first | exact Nat.le_refl _ | exact Nat.le_of_ble_eq_true rfl | decide | (simp <;> fail) | (simp; omega)) (by first | exact put_one rfl | exact put_blkI (by first | omega | (simp; omega)) | exact put_rowI (by first | omega | (simp; omega)) | rfl) (by first | exact .here | exact .there (.here) rfl | exact .there (.there (.here) rfl) rfl | exact .there (.there (.there (.here) rfl) rfl) rfl | exact .there (.there (.there (.there (.here) rfl) rfl) rfl) rfl | exact .there (.there (.there (.there (.there (.here) rfl) rfl) rfl) rfl) rfl | exact .there (.there (.there (.there (.there (.there (.here) rfl) rfl) rfl) rfl) rfl) rfl | exact .there (.there (.there (.there (.there (.there (.there (.here) rfl) rfl) rfl) rfl) rfl) rfl) rfl | exact .there (.there (.there (.there (.there (.there (.there (.there (.here) rfl) rfl) rfl) rfl) rfl) rfl) rfl) rfl | exact .there (.there (.there (.there (.there (.there (.there (.there (.there (.here) rfl) rfl) rfl) rfl) rfl) rfl) rfl) rfl) rfl) rfl)) ?_
  refine WL_nil ?_
  refine W_seq ?_
  refine W_region ?_
  refine WL_cons hC.fn (.plain rfl (oc_load hC (.tmp rfl) (by first | exact .p rfl | exact .rp) shp_29 (by first | exact unit_blkI (by first | omega | (simp <;> fail) | (simp; omega)) | exact unit_rowI (by first | omega | (simp; omega)) | exact unit_all (by first | omega | (simp <;> fail) | (simp; omega)) | exact unit_takeI0 (by first | omega | (simp; omega)) | exact unit_takeI (by first | omega | (simp; omega)) | exact unit_agg rfl) rfl rfl)) ?_
  refine WL_cons hC.fn (.plain rfl (oc_load hC (.tmp rfl) (by first | exact .p rfl | exact .rp) shp_22 (by first | exact unit_one rfl | exact unit_I (by first | omega | (simp; omega)) | exact unit_c rfl (by decide) | exact unit_c rfl (by simp)) rfl rfl)) ?_
  refine WL_cons hC.fn (.plain rfl (oc_load hC (.tmp rfl) (by first | exact .p rfl | exact .rp) shp_30 (by first | exact unit_blkI (by first | omega | (simp <;> fail) | (simp; omega)) | exact unit_rowI (by first | omega | (simp; omega)) | exact unit_all (by first | omega | (simp <;> fail) | (simp; omega)) | exact unit_takeI0 (by first | omega | (simp; omega)) | exact unit_takeI (by first | omega | (simp; omega)) | exact unit_agg rfl) rfl rfl)) ?_
  refine WL_cons hC.fn (.plain rfl (oc_callG (v' := .f 24 [.p 8 0, .p 9 0, .p 10 0]) (τ := fun k => bif Nat.beq k 2 then 10 else bif Nat.beq k 1 then 9 else bif Nat.beq k 0 then 8 else k) (N' := 11) hC .func (.cons (.tmp rfl) (.cons (.tmp rfl) (.cons (.tmp rfl) .nil))) (.v1 (.free (by first | exact inSL_I _ | simp)) (.v1 (.free (by first | exact inSL_I _ | simp)) (.v1 (.free (by first | exact inSL_I _ | simp)) .end))) (blocks_c _ _ _ hk hnc) glob_nil mr_nil (mr_cons (by first | exact ren_blkI | exact ren_rowI | exact Blk.ren_free (by simp) _ | rfl) rfl (mr_cons (by first | exact ren_blkI | exact ren_rowI | exact Blk.ren_free (by simp) _ | rfl) rfl (mr_cons (by first | exact ren_blkI | exact ren_rowI | exact Blk.ren_free (by simp) _ | rfl) rfl mr_nil))) rfl rd_nil rfl rfl rfl rfl (by first | exact .inl rfl | exact .inr ⟨by simp, (nv_cons (by first | exact novsL_I _ | simp) (nv_cons (by first | exact novsL_I _ | simp) (nv_cons (by first | exact novsL_I _ | simp) nv_nil)))⟩) rfl (dst_ok rfl rfl) (fun t => setE_cons _ _ _ _))) ?_
  refine WL_cons hC.fn (.plain rfl (oc_assign hC (.tmp rfl) rfl rfl)) ?_
  refine WL_nil ?_
  refine W_seq ?_
  refine W_seq ?_
  refine W_region ?_
  refine WL_cons hC.fn (.plain rfl (oc_move hC (.tmp rfl) rfl rfl)) ?_
  refine WL_cons hC.fn (.plain rfl (oc_funcnil hC (.inl rfl) (.tmp rfl) Try.underlying35 rfl rfl)) ?_
  refine WL_nil ?_
  refine W_cond rfl (by decide) (fun hc => by cases hc) (fun _ => ?_)
  refine W_skip ?_
  refine W_seq ?_
  refine W_seq ?_
  refine W_region ?_
  refine WL_cons hC.fn (.plain rfl (oc_move hC (.tmp rfl) rfl rfl)) ?_
  refine WL_nil ?_
  refine W_blk ?_
  refine W_range (T := 13) (G := []) [0, 1, 2, 3, 4, 5, 6, 7, 8, 9, 10] hC hro rfl rfl rfl rfl Try.func24 rfl rfl (by decide) rfl rfl rfl glob_nil rfl (by simp) (fun k hk => by first | exact absurd hk (Nat.not_lt_zero _) | (have hk2 : k < 0 := hk; have : k = 0 ∨ k = 1 ∨ k = 2 ∨ k = 3 := (by omega); rcases this with rfl | rfl | rfl | rfl <;> first | decide | omega)) (by show ∀ k ∈ _, k < 11; decide) (fun ρ1 w1 H1 l1 r1 hI1 hR1 => ?_)
  refine W_blk ?_
  refine W_loopW (fun (ζ : Nat) => ⟨11, [(0, .f (1000000000 + l1) []), (1, .p 8 0), (2, .p 9 0), (3, .p 10 0), (5000000, .rp [])], [(0, .blk 29 (I .u8 key)), (1, .blk 22 [.i .u32 n]), (2, .blk 30 (I .u8 nonce)), (3, .blk 5 [.i .u8 mo]), (4, .blk 4 [.b false]), (7, .blk 3 [.i .i64 ζ]), (8, .blk 29 (I .u8 key)), (9, .blk 22 [.i .u32 (nn n ζ)]), (10, .blk 30 (I .u8 nonce))]⟩) (fun ζ => ζ ≤ mo % 5) (fun ζ => mo % 5 - ζ) (0) (Nat.zero_le _) (weakK (fun k => k) (.cons rfl (by first | exact ren_agI | exact ren_vsI | exact ren_free _ _ (by first | exact inSL_I _ | simp)) (by first | exact inSL_I _ | simp) (.cons rfl (by first | rfl | simp) (by show _ < _; decide) (.cons rfl (by first | rfl | simp) (by show _ < _; decide) (.cons rfl (by first | rfl | simp) (by show _ < _; decide) (.cons rfl (by first | exact ren_agI | exact ren_vsI | exact ren_free _ _ (by first | exact inSL_I _ | simp)) (by first | exact inSL_I _ | simp) .nil))))) (.cons rfl (by first | exact ren_blkI | exact ren_rowI | exact Blk.ren_free (by simp) _ | rfl) rfl (by first | exact inSL_I _ | simp) (.cons rfl rfl rfl (by first | exact inSL_I _ | simp) (.cons rfl (by first | exact ren_blkI | exact ren_rowI | exact Blk.ren_free (by simp) _ | rfl) rfl (by first | exact inSL_I _ | simp) (.cons rfl rfl rfl (by first | exact inSL_I _ | simp) (.cons rfl rfl rfl (by first | exact inSL_I _ | simp) (.cons rfl rfl rfl (by first | exact inSL_I _ | simp) (.cons rfl (by first | exact ren_blkI | exact ren_rowI | exact Blk.ren_free (by simp) _ | rfl) rfl (by first | exact inSL_I _ | simp) (.cons rfl (by rw [nn_zero hn]; rfl) rfl (by first | exact inSL_I _ | simp) (.cons rfl (by first | exact ren_blkI | exact ren_rowI | exact Blk.ren_free (by simp) _ | rfl) rfl (by first | exact inSL_I _ | simp) .nil))))))))) rfl rfl rfl) ?_
  intro i hR
  replace hR : i ≤ mo % 5 := hR
  first | show W _ _ _ ⟨11, [(0, .f (1000000000 + l1) []), (1, .p 8 0), (2, .p 9 0), (3, .p 10 0), (5000000, .rp [])], [(0, .blk 29 (I .u8 key)), (1, .blk 22 [.i .u32 n]), (2, .blk 30 (I .u8 nonce)), (3, .blk 5 [.i .u8 mo]), (4, .blk 4 [.b false]), (7, .blk 3 [.i .i64 i]), (8, .blk 29 (I .u8 key)), (9, .blk 22 [.i .u32 (nn n i)]), (10, .blk 30 (I .u8 nonce))]⟩ | skip
  have hnn := nn_range (n := n) (i := i)
  have hli := length_blk key (nn n i) nonce
  have hb8 := B8_blk key (nn n i) nonce
  refine W_seq ?_
  refine W_seq ?_
  refine W_region ?_
  refine WL_cons hI1.fn (.plain rfl (oc_move hI1 (.tmp rfl) rfl rfl)) ?_
  refine WL_cons hI1.fn (.plain rfl (oc_load hI1 (.tmp rfl) (by first | exact .p rfl | exact .rp) shp_29 (by first | exact unit_blkI (by first | omega | (simp <;> fail) | (simp; omega)) | exact unit_rowI (by first | omega | (simp; omega)) | exact unit_all (by first | omega | (simp <;> fail) | (simp; omega)) | exact unit_takeI0 (by first | omega | (simp; omega)) | exact unit_takeI (by first | omega | (simp; omega)) | exact unit_agg rfl) rfl rfl)) ?_
  refine WL_cons hI1.fn (.plain rfl (oc_load hI1 (.tmp rfl) (by first | exact .p rfl | exact .rp) shp_22 (by first | exact unit_one rfl | exact unit_I (by first | omega | (simp; omega)) | exact unit_c rfl (by decide) | exact unit_c rfl (by simp)) rfl rfl)) ?_
  refine WL_cons hI1.fn (.plain rfl (oc_load hI1 (.tmp rfl) (by first | exact .p rfl | exact .rp) shp_30 (by first | exact unit_blkI (by first | omega | (simp <;> fail) | (simp; omega)) | exact unit_rowI (by first | omega | (simp; omega)) | exact unit_all (by first | omega | (simp <;> fail) | (simp; omega)) | exact unit_takeI0 (by first | omega | (simp; omega)) | exact unit_takeI (by first | omega | (simp; omega)) | exact unit_agg rfl) rfl rfl)) ?_
  refine WL_cons hI1.fn (.plain rfl (oc_call hI1 (.cons (.tmp rfl) (.cons (.tmp rfl) (.cons (.tmp rfl) .nil))) (.cons1 (.free (by first | exact inSL_I _ | simp)) (.cons1 (.free (by first | exact inSL_I _ | simp)) (.cons1 (.free (by first | exact inSL_I _ | simp)) (.same (by first | exact inSL_I _ | simp))))) (block_c _ _ _ hk hnc hk8 hc8 hnn) glob_nil (by first | exact inSL_I _ | simp) (by first | exact .inl rfl | exact .inr (by simp)) rfl rfl)) ?_
  refine WL_yield [0, 1, 2, 3, 4, 5, 6, 7, 8, 9, 10] hR1 hI1 rfl rfl (.cons (.tmp rfl) .nil) rfl rfl rfl rfl rfl rfl (by decide) (by simp) (by show ∀ k ∈ _, k < 11; decide) (fun ρb wb Hb hB => ?_)
  refine W_region ?_
  refine WL_cons hB.fn (.plain rfl (ox_alloc hB zero_31 rfl rfl rfl)) ?_
  refine WL_cons hB.fn (.plain rfl (ox_store hB (.tmp rfl) (.tmp rfl) rfl shp_31 (by first | rfl | exact flat_agI) (by rw [cells_ag, length_I, hli]) (by first | exact Nat.le_refl _ | exact Nat.le_of_ble_eq_true rfl | decide | (simp <;> fail) | (simp; omega)) (put_allI (by rw [hli]; rfl)) (by first | exact .here | exact .there (.here) rfl | exact .there (.there (.here) rfl) rfl | exact .there (.there (.there (.here) rfl) rfl) rfl | exact .there (.there (.there (.there (.here) rfl) rfl) rfl) rfl | exact .there (.there (.there (.there (.there (.here) rfl) rfl) rfl) rfl) rfl | exact .there (.there (.there (.there (.there (.there (.here) rfl) rfl) rfl) rfl) rfl) rfl | exact .there (.there (.there (.there (.there (.there (.there (.here) rfl) rfl) rfl) rfl) rfl) rfl) rfl | exact .there (.there (.there (.there (.there (.there (.there (.there (.here) rfl) rfl) rfl) rfl) rfl) rfl) rfl) rfl | exact .there (.there (.there (.there (.there (.there (.there (.there (.there (.here) rfl) rfl) rfl) rfl) rfl) rfl) rfl) rfl) rfl) rfl)) ?_
  refine WL_nil ?_
  refine ⟨rfl, ?_⟩
  refine W_blk ?_
  refine W_seq ?_
  refine W_seq ?_
  refine W_drawD hB ?_
  refine WD_cons (.plain rfl (oc_load hB (.tmp rfl) (by first | exact .p rfl | exact .rp) shp_31 (by exact (unit_all hli)) rfl rfl)) ?_
  refine WD_cons (.plain rfl (oc_load hB (.tmp rfl) (by first | exact .p rfl | exact .rp) shp_29 (by first | exact unit_blkI (by first | omega | (simp <;> fail) | (simp; omega)) | exact unit_rowI (by first | omega | (simp; omega)) | exact unit_all (by first | omega | (simp <;> fail) | (simp; omega)) | exact unit_takeI0 (by first | omega | (simp; omega)) | exact unit_takeI (by first | omega | (simp; omega)) | exact unit_agg rfl) rfl rfl)) ?_
  refine WD_cons (.plain rfl (oc_load hB (.tmp rfl) (by first | exact .p rfl | exact .rp) shp_22 (by first | exact unit_one rfl | exact unit_I (by first | omega | (simp; omega)) | exact unit_c rfl (by decide) | exact unit_c rfl (by simp)) rfl rfl)) ?_
  refine WD_cons (.plain rfl (oc_load hB (.tmp rfl) (by first | exact .p rfl | exact .rp) shp_3 (by first | exact unit_one rfl | exact unit_I (by first | omega | (simp; omega)) | exact unit_c rfl (by decide) | exact unit_c rfl (by simp)) rfl rfl)) ?_
  refine WD_cons (.plain rfl (oc_conv hB (.tmp rfl) rfl Try.underlying22 (r := IntKind.u32.wrap (i : Int)) rfl rfl rfl)) ?_
  refine WD_cons (.plain rfl (oc_bin hB rfl (.tmp rfl) (.tmp rfl) (r := nn n i) u32_nn rfl rfl)) ?_
  refine WD_cons (.plain rfl (oc_load hB (.tmp rfl) (by first | exact .p rfl | exact .rp) shp_30 (by first | exact unit_blkI (by first | omega | (simp <;> fail) | (simp; omega)) | exact unit_rowI (by first | omega | (simp; omega)) | exact unit_all (by first | omega | (simp <;> fail) | (simp; omega)) | exact unit_takeI0 (by first | omega | (simp; omega)) | exact unit_takeI (by first | omega | (simp; omega)) | exact unit_agg rfl) rfl rfl)) ?_
  refine WD_cons (.plain rfl (oc_call hB (.cons (.tmp rfl) (.cons (.tmp rfl) (.cons (.tmp rfl) .nil))) (.cons1 (.free (by first | exact inSL_I _ | simp)) (.cons1 (.free (by first | exact inSL_I _ | simp)) (.cons1 (.free (by first | exact inSL_I _ | simp)) (.same (by first | exact inSL_I _ | simp))))) (block_c _ _ _ hk hnc hk8 hc8 hnn) glob_nil (by first | exact inSL_I _ | simp) (by first | exact .inl rfl | exact .inr (by simp)) rfl rfl)) ?_
  refine WD_cons (.plain rfl (ox_eqI (r := false) hB (.inr rfl) (.tmp rfl) (.tmp rfl) sh_31 kt_31 sg_31 eg_31 hli hli (wf_u8 hb8) (wf_u8 hb8) (by simp) rfl rfl)) ?_
  refine WD_nil (by kernel_rfl) ?_
  refine W_cond rfl (by decide) (fun hc => by cases hc) (fun _ => ?_)
  refine W_skip ?_
  refine W_seq ?_
  refine W_region ?_
  refine WL_cons hB.fn (.plain rfl (oc_load hB (.tmp rfl) (by first | exact .p rfl | exact .rp) shp_3 (by first | exact unit_one rfl | exact unit_I (by first | omega | (simp; omega)) | exact unit_c rfl (by decide) | exact unit_c rfl (by simp)) rfl rfl)) ?_
  refine WL_cons hB.fn (.plain rfl (oc_bin hB rfl (.tmp rfl) .cint (by first | exact i64_add (by omega) | rfl) rfl rfl)) ?_
  refine WL_cons hB.fn (.plain rfl (ox_store hB (.tmp rfl) (.tmp rfl) rfl shp_3 (by first | rfl | exact flat_agI) (by first | exact cells1 rfl | (rw [cells_ag, length_I]; omega) | rfl | (simp <;> fail) | (simp; omega)) (by first | exact Nat.le_refl _ | exact Nat.le_of_ble_eq_true rfl | decide | (simp <;> fail) | (simp; omega)) (by first | exact put_one rfl | exact put_blkI (by first | omega | (simp; omega)) | exact put_rowI (by first | omega | (simp; omega)) | rfl) (by first | exact .here | exact .there (.here) rfl | exact .there (.there (.here) rfl) rfl | exact .there (.there (.there (.here) rfl) rfl) rfl | exact .there (.there (.there (.there (.here) rfl) rfl) rfl) rfl | exact .there (.there (.there (.there (.there (.here) rfl) rfl) rfl) rfl) rfl | exact .there (.there (.there (.there (.there (.there (.here) rfl) rfl) rfl) rfl) rfl) rfl | exact .there (.there (.there (.there (.there (.there (.there (.here) rfl) rfl) rfl) rfl) rfl) rfl) rfl | exact .there (.there (.there (.there (.there (.there (.there (.there (.here) rfl) rfl) rfl) rfl) rfl) rfl) rfl) rfl | exact .there (.there (.there (.there (.there (.there (.there (.there (.there (.here) rfl) rfl) rfl) rfl) rfl) rfl) rfl) rfl) rfl) rfl)) ?_
  refine WL_nil ?_
  refine W_seq ?_
  refine W_region ?_
  refine WL_cons hB.fn (.plain rfl (oc_load hB (.tmp rfl) (by first | exact .p rfl | exact .rp) shp_3 (by first | exact unit_one rfl | exact unit_I (by first | omega | (simp; omega)) | exact unit_c rfl (by decide) | exact unit_c rfl (by simp)) rfl rfl)) ?_
  refine WL_cons hB.fn (.plain rfl (oc_load hB (.tmp rfl) (by first | exact .p rfl | exact .rp) shp_5 (by first | exact unit_one rfl | exact unit_I (by first | omega | (simp; omega)) | exact unit_c rfl (by decide) | exact unit_c rfl (by simp)) rfl rfl)) ?_
  refine WL_cons hB.fn (.plain rfl (oc_conv hB (.tmp rfl) rfl Try.underlying3 (by first | exact i64_conv (by omega) | rfl) rfl rfl)) ?_
  refine WL_cons hB.fn (.plain rfl (oc_div hB (.inr rfl) (.tmp rfl) .cint (by first | decide | omega) (r := ((mo % 5 : Nat) : Int)) (nrem (y := 5)) rfl rfl)) ?_
  refine WL_cons hB.fn (.plain rfl (ox_cmp hB rfl (.tmp rfl) (.tmp rfl) rfl rfl rfl)) ?_
  refine WL_nil ?_
  refine W_cond rfl (by decide) (fun hc => ?_) (fun hc => ?_)
  ·
    replace hc := gtr_t hc
    obtain rfl : i = mo % 5 := by omega
    refine W_exit ?_
    refine rd_x (by rfl) ?_
    refine WL_nil ?_
    refine W_cond rfl (by decide) (fun hc => by cases hc) (fun _ => ?_)
    refine W_exit ?_
    refine rq_x 0 (.inl rfl) (by rfl) ?_
    refine W_seq ?_
    refine W_region ?_
    refine WL_cons hC.fn (.plain rfl (oc_load hC (.tmp rfl) (by first | exact .p rfl | exact .rp) shp_3 (by first | exact unit_one rfl | exact unit_I (by first | omega | (simp; omega)) | exact unit_c rfl (by decide) | exact unit_c rfl (by simp)) rfl rfl)) ?_
    refine WL_cons hC.fn (.plain rfl (oc_load hC (.tmp rfl) (by first | exact .p rfl | exact .rp) shp_5 (by first | exact unit_one rfl | exact unit_I (by first | omega | (simp; omega)) | exact unit_c rfl (by decide) | exact unit_c rfl (by simp)) rfl rfl)) ?_
    refine WL_cons hC.fn (.plain rfl (oc_conv hC (.tmp rfl) rfl Try.underlying3 (by first | exact i64_conv (by omega) | rfl) rfl rfl)) ?_
    refine WL_cons hC.fn (.plain rfl (oc_div hC (.inr rfl) (.tmp rfl) .cint (by first | decide | omega) (r := ((mo % 5 : Nat) : Int)) (nrem (y := 5)) rfl rfl)) ?_
    refine WL_cons hC.fn (.plain rfl (oc_bin hC rfl (.tmp rfl) .cint (by first | exact i64_add (by omega) | rfl) rfl rfl)) ?_
    refine WL_cons hC.fn (.plain rfl (ox_cmp hC rfl (.tmp rfl) (.tmp rfl) (r := true) (by simp [cmpI]) rfl rfl)) ?_
    refine WL_cons hC.fn (.plain rfl (oc_move hC (.tmp rfl) rfl rfl)) ?_
    refine WL_cons hC.fn (.yes rfl rfl (by decide) rfl (oc_call hC .nil (.same (by first | exact inSL_I _ | simp)) (awake05_c) glob_nil (by first | exact inSL_I _ | simp) (by first | exact .inl rfl | exact .inr (by simp)) rfl rfl)) ?_
    refine WL_cons hC.fn (.plain rfl (ox_pick hC (.tmp rfl) (.tmp rfl) .cbool (by first | exact pick_t | exact pick_f | rfl) rfl rfl)) ?_
    refine WL_cons hC.fn (.plain rfl (ox_store hC (.tmp rfl) (.tmp rfl) rfl shp_4 (by first | rfl | exact flat_agI) (by first | exact cells1 rfl | (rw [cells_ag, length_I]; omega) | rfl | (simp <;> fail) | (simp; omega)) (by first | exact Nat.le_refl _ | exact Nat.le_of_ble_eq_true rfl | decide | (simp <;> fail) | (simp; omega)) (by first | exact put_one rfl | exact put_blkI (by first | omega | (simp; omega)) | exact put_rowI (by first | omega | (simp; omega)) | rfl) (by first | exact .here | exact .there (.here) rfl | exact .there (.there (.here) rfl) rfl | exact .there (.there (.there (.here) rfl) rfl) rfl | exact .there (.there (.there (.there (.here) rfl) rfl) rfl) rfl | exact .there (.there (.there (.there (.there (.here) rfl) rfl) rfl) rfl) rfl | exact .there (.there (.there (.there (.there (.there (.here) rfl) rfl) rfl) rfl) rfl) rfl | exact .there (.there (.there (.there (.there (.there (.there (.here) rfl) rfl) rfl) rfl) rfl) rfl) rfl | exact .there (.there (.there (.there (.there (.there (.there (.there (.here) rfl) rfl) rfl) rfl) rfl) rfl) rfl) rfl | exact .there (.there (.there (.there (.there (.there (.there (.there (.there (.here) rfl) rfl) rfl) rfl) rfl) rfl) rfl) rfl) rfl) rfl)) ?_
    refine WL_nil ?_
    refine W_ret ?_
    exact fin0 (.cons (.cell rfl (.p rfl) shp_4 (unit_one rfl)) .nil) rfl trivial
  ·
    replace hc := gtr_f hc
    
    refine W_skip ?_
    refine rd_n (by rfl) ?_
    refine WL_nil ?_
    refine W_cond rfl (by decide) (fun _ => ?_) (fun hc => by cases hc)
    refine W_skip ?_
    refine W_blk ?_
    refine W_region ?_
    refine WL_cons hI1.fn (.plain rfl (oc_load hI1 (.tmp rfl) (by first | exact .p rfl | exact .rp) shp_22 (by first | exact unit_one rfl | exact unit_I (by first | omega | (simp; omega)) | exact unit_c rfl (by decide) | exact unit_c rfl (by simp)) rfl rfl)) ?_
    refine WL_cons hI1.fn (.plain rfl (oc_bin hI1 rfl (.tmp rfl) .cint (u32_wrap _) rfl rfl)) ?_
    refine WL_cons hI1.fn (.plain rfl (ox_store hI1 (.tmp rfl) (.tmp rfl) rfl shp_22 (by first | rfl | exact flat_agI) (by first | exact cells1 rfl | (rw [cells_ag, length_I]; omega) | rfl | (simp <;> fail) | (simp; omega)) (by first | exact Nat.le_refl _ | exact Nat.le_of_ble_eq_true rfl | decide | (simp <;> fail) | (simp; omega)) (by first | exact put_one rfl | exact put_blkI (by first | omega | (simp; omega)) | exact put_rowI (by first | omega | (simp; omega)) | rfl) (by first | exact .here | exact .there (.here) rfl | exact .there (.there (.here) rfl) rfl | exact .there (.there (.there (.here) rfl) rfl) rfl | exact .there (.there (.there (.there (.here) rfl) rfl) rfl) rfl | exact .there (.there (.there (.there (.there (.here) rfl) rfl) rfl) rfl) rfl | exact .there (.there (.there (.there (.there (.there (.here) rfl) rfl) rfl) rfl) rfl) rfl | exact .there (.there (.there (.there (.there (.there (.there (.here) rfl) rfl) rfl) rfl) rfl) rfl) rfl | exact .there (.there (.there (.there (.there (.there (.there (.there (.here) rfl) rfl) rfl) rfl) rfl) rfl) rfl) rfl | exact .there (.there (.there (.there (.there (.there (.there (.there (.there (.here) rfl) rfl) rfl) rfl) rfl) rfl) rfl) rfl) rfl) rfl)) ?_
    refine WL_nil ?_
    exact ⟨(i + 1), (by omega), (weakK (fun k => k) (.cons rfl (by first | exact ren_agI | exact ren_vsI | exact ren_free _ _ (by first | exact inSL_I _ | simp)) (by first | exact inSL_I _ | simp) (.cons rfl (by first | rfl | simp) (by show _ < _; decide) (.cons rfl (by first | rfl | simp) (by show _ < _; decide) (.cons rfl (by first | rfl | simp) (by show _ < _; decide) (.cons rfl (by first | exact ren_agI | exact ren_vsI | exact ren_free _ _ (by first | exact inSL_I _ | simp)) (by first | exact inSL_I _ | simp) .nil))))) (.cons rfl (by first | exact ren_blkI | exact ren_rowI | exact Blk.ren_free (by simp) _ | rfl) rfl (by first | exact inSL_I _ | simp) (.cons rfl rfl rfl (by first | exact inSL_I _ | simp) (.cons rfl (by first | exact ren_blkI | exact ren_rowI | exact Blk.ren_free (by simp) _ | rfl) rfl (by first | exact inSL_I _ | simp) (.cons rfl rfl rfl (by first | exact inSL_I _ | simp) (.cons rfl rfl rfl (by first | exact inSL_I _ | simp) (.cons rfl rfl rfl (by first | exact inSL_I _ | simp) (.cons rfl (by first | exact ren_blkI | exact ren_rowI | exact Blk.ren_free (by simp) _ | rfl) rfl (by first | exact inSL_I _ | simp) (.cons rfl (by rw [← nn_succ]; rfl) rfl (by first | exact inSL_I _ | simp) (.cons rfl (by first | exact ren_blkI | exact ren_rowI | exact Blk.ren_free (by simp) _ | rfl) rfl (by first | exact inSL_I _ | simp) .nil))))))))) rfl rfl rfl), (by omega)⟩
set_option maxRecDepth 20000 in
set_option maxHeartbeats 4000000 in
theorem law_StreamSkips (key nonce : List Int) (n : Int) (hk : key.length = 32) (hnc : nonce.length = 12) (hk8 : B8 key) (hc8 : B8 nonce) (hn : 0 ≤ n ∧ n < 4294967296) : FnC Try.prog 8 [] [.ag (I .u8 key), .i .u32 n, .ag (I .u8 nonce)] [] [] (.b true) := by
  have hn1 := nn_range (n := n) (i := 1)
  refine FnC.introR (N0 := 0) (T := 74) (E := [(0, .ag (I .u8 key)), (1, .i .u32 n), (2, .ag (I .u8 nonce))]) Try.func8 rfl (by decide) mix rfl rfl rfl (by simp) rfl ⟨(by first | exact inSL_I _ | trivial | simp), (by first | exact inSL_I _ | trivial | simp), (by first | exact inSL_I _ | trivial | simp), trivial⟩ (by simp) (by intro S _ _ h; simp) (fun F n0 X w ρ hC hro => ?_)
  refine W_seq ?_
  refine W_region ?_
  refine WL_cons hC.fn (.plain rfl (ox_box hC (.tmp rfl) (by first | rfl | exact flat_agI) (by first | exact cells_ag | rfl) rfl rfl)) ?_
  refine WL_cons hC.fn (.plain rfl (ox_box hC (.tmp rfl) (by first | rfl | exact flat_agI) (by first | exact cells_ag | rfl) rfl rfl)) ?_
  refine WL_cons hC.fn (.plain rfl (oc_assign hC .cbool rfl rfl)) ?_
  refine WL_nil ?_
  refine W_seq ?_
  refine W_region ?_
  refine WL_cons hC.fn (.plain rfl (ox_alloc hC zero_42 rfl rfl rfl)) ?_
  refine WL_cons hC.fn (.plain rfl (ox_alloc hC zero_42 rfl rfl rfl)) ?_
  refine WL_nil ?_
  refine W_seq ?_
  refine W_drawD hC ?_
  refine WD_cons (.plain rfl (oc_load hC (.tmp rfl) (by first | exact .p rfl | exact .rp) shp_29 (by first | exact unit_blkI (by first | omega | (simp <;> fail) | (simp; omega)) | exact unit_rowI (by first | omega | (simp; omega)) | exact unit_all (by first | omega | (simp <;> fail) | (simp; omega)) | exact unit_takeI0 (by first | omega | (simp; omega)) | exact unit_takeI (by first | omega | (simp; omega)) | exact unit_agg rfl) rfl rfl)) ?_
  refine WD_cons (.plain rfl (oc_move hC (.tmp rfl) rfl rfl)) ?_
  refine WD_cons (.plain rfl (oc_load hC (.tmp rfl) (by first | exact .p rfl | exact .rp) shp_30 (by first | exact unit_blkI (by first | omega | (simp <;> fail) | (simp; omega)) | exact unit_rowI (by first | omega | (simp; omega)) | exact unit_all (by first | omega | (simp <;> fail) | (simp; omega)) | exact unit_takeI0 (by first | omega | (simp; omega)) | exact unit_takeI (by first | omega | (simp; omega)) | exact unit_agg rfl) rfl rfl)) ?_
  refine WD_cons (.plain rfl (oc_callG (v' := .f 24 [.p 4 0, .p 5 0, .p 6 0]) (τ := fun k => bif Nat.beq k 2 then 6 else bif Nat.beq k 1 then 5 else bif Nat.beq k 0 then 4 else k) (N' := 7) hC .func (.cons (.tmp rfl) (.cons (.tmp rfl) (.cons (.tmp rfl) .nil))) (.v1 (.free (by first | exact inSL_I _ | simp)) (.v1 (.free (by first | exact inSL_I _ | simp)) (.v1 (.free (by first | exact inSL_I _ | simp)) .end))) (blocks_c _ _ _ hk hnc) glob_nil mr_nil (mr_cons (by first | exact ren_blkI | exact ren_rowI | exact Blk.ren_free (by simp) _ | rfl) rfl (mr_cons (by first | exact ren_blkI | exact ren_rowI | exact Blk.ren_free (by simp) _ | rfl) rfl (mr_cons (by first | exact ren_blkI | exact ren_rowI | exact Blk.ren_free (by simp) _ | rfl) rfl mr_nil))) rfl rd_nil rfl rfl rfl rfl (by first | exact .inl rfl | exact .inr ⟨by simp, (nv_cons (by first | exact novsL_I _ | simp) (nv_cons (by first | exact novsL_I _ | simp) (nv_cons (by first | exact novsL_I _ | simp) nv_nil)))⟩) rfl (dst_ok rfl rfl) (fun t => setE_cons _ _ _ _))) ?_
  refine WD_cons (.plain rfl (oc_load hC (.tmp rfl) (by first | exact .p rfl | exact .rp) shp_29 (by first | exact unit_blkI (by first | omega | (simp <;> fail) | (simp; omega)) | exact unit_rowI (by first | omega | (simp; omega)) | exact unit_all (by first | omega | (simp <;> fail) | (simp; omega)) | exact unit_takeI0 (by first | omega | (simp; omega)) | exact unit_takeI (by first | omega | (simp; omega)) | exact unit_agg rfl) rfl rfl)) ?_
  refine WD_cons (.plain rfl (oc_move hC (.tmp rfl) rfl rfl)) ?_
  refine WD_cons (.plain rfl (oc_bin hC rfl (.tmp rfl) .cint (r := (nn n 1)) (by show IntKind.u32.wrap (n + 1) = _; rw [u32_wrap]; unfold nn; rfl) rfl rfl)) ?_
  refine WD_cons (.plain rfl (oc_load hC (.tmp rfl) (by first | exact .p rfl | exact .rp) shp_30 (by first | exact unit_blkI (by first | omega | (simp <;> fail) | (simp; omega)) | exact unit_rowI (by first | omega | (simp; omega)) | exact unit_all (by first | omega | (simp <;> fail) | (simp; omega)) | exact unit_takeI0 (by first | omega | (simp; omega)) | exact unit_takeI (by first | omega | (simp; omega)) | exact unit_agg rfl) rfl rfl)) ?_
  refine WD_cons (.plain rfl (oc_callG (v' := .f 24 [.p 7 0, .p 8 0, .p 9 0]) (τ := fun k => bif Nat.beq k 2 then 9 else bif Nat.beq k 1 then 8 else bif Nat.beq k 0 then 7 else k) (N' := 10) hC .func (.cons (.tmp rfl) (.cons (.tmp rfl) (.cons (.tmp rfl) .nil))) (.v1 (.free (by first | exact inSL_I _ | simp)) (.v1 (.free (by first | exact inSL_I _ | simp)) (.v1 (.free (by first | exact inSL_I _ | simp)) .end))) (blocks_c _ _ _ hk hnc) glob_nil mr_nil (mr_cons (by first | exact ren_blkI | exact ren_rowI | exact Blk.ren_free (by simp) _ | rfl) rfl (mr_cons (by first | exact ren_blkI | exact ren_rowI | exact Blk.ren_free (by simp) _ | rfl) rfl (mr_cons (by first | exact ren_blkI | exact ren_rowI | exact Blk.ren_free (by simp) _ | rfl) rfl mr_nil))) rfl rd_nil rfl rfl rfl rfl (by first | exact .inl rfl | exact .inr ⟨by simp, (nv_cons (by first | exact novsL_I _ | simp) (nv_cons (by first | exact novsL_I _ | simp) (nv_cons (by first | exact novsL_I _ | simp) nv_nil)))⟩) rfl (dst_ok rfl rfl) (fun t => setE_cons _ _ _ _))) ?_
  refine WD_cons (.plain rfl (oc_assign hC (.tmp rfl) rfl rfl)) ?_
  refine WD_cons (.plain rfl (oc_assign hC (.tmp rfl) rfl rfl)) ?_
  refine WD_nil (by kernel_rfl) ?_
  refine W_seq ?_
  refine W_seq ?_
  refine W_region ?_
  refine WL_cons hC.fn (.plain rfl (oc_move hC (.tmp rfl) rfl rfl)) ?_
  refine WL_cons hC.fn (.plain rfl (oc_funcnil hC (.inl rfl) (.tmp rfl) Try.underlying35 rfl rfl)) ?_
  refine WL_cons hC.fn (.plain rfl (oc_move hC (.tmp rfl) rfl rfl)) ?_
  refine WL_cons hC.fn (.yes rfl rfl (by decide) rfl (oc_move hC (.tmp rfl) rfl rfl)) ?_
  refine WL_cons hC.fn (.yes rfl rfl (by decide) rfl (oc_funcnil hC (.inl rfl) (.tmp rfl) Try.underlying35 rfl rfl)) ?_
  refine WL_cons hC.fn (.plain rfl (ox_pick hC (.tmp rfl) .cbool (.tmp rfl) (by first | exact pick_t | exact pick_f | rfl) rfl rfl)) ?_
  refine WL_nil ?_
  refine W_cond rfl (by decide) (fun hc => by cases hc) (fun _ => ?_)
  refine W_skip ?_
  refine W_seq ?_
  refine W_seq ?_
  refine W_region ?_
  refine WL_cons hC.fn (.plain rfl (oc_move hC (.tmp rfl) rfl rfl)) ?_
  refine WL_nil ?_
  refine W_blk ?_
  refine W_weak (weak_nilB (j := 2) (i := 0) (e := 31) (sz := 64) rfl rfl (by first | exact .here | exact .there (.here) rfl | exact .there (.there (.here) rfl) rfl | exact .there (.there (.there (.here) rfl) rfl) rfl | exact .there (.there (.there (.there (.here) rfl) rfl) rfl) rfl | exact .there (.there (.there (.there (.there (.here) rfl) rfl) rfl) rfl) rfl | exact .there (.there (.there (.there (.there (.there (.here) rfl) rfl) rfl) rfl) rfl) rfl | exact .there (.there (.there (.there (.there (.there (.there (.here) rfl) rfl) rfl) rfl) rfl) rfl) rfl | exact .there (.there (.there (.there (.there (.there (.there (.there (.here) rfl) rfl) rfl) rfl) rfl) rfl) rfl) rfl | exact .there (.there (.there (.there (.there (.there (.there (.there (.there (.here) rfl) rfl) rfl) rfl) rfl) rfl) rfl) rfl) rfl | exact .there (.there (.there (.there (.there (.there (.there (.there (.there (.there (.here) rfl) rfl) rfl) rfl) rfl) rfl) rfl) rfl) rfl) rfl | exact .there (.there (.there (.there (.there (.there (.there (.there (.there (.there (.there (.here) rfl) rfl) rfl) rfl) rfl) rfl) rfl) rfl) rfl) rfl) rfl | exact .there (.there (.there (.there (.there (.there (.there (.there (.there (.there (.there (.there (.here) rfl) rfl) rfl) rfl) rfl) rfl) rfl) rfl) rfl) rfl) rfl) rfl | exact .there (.there (.there (.there (.there (.there (.there (.there (.there (.there (.there (.there (.there (.here) rfl) rfl) rfl) rfl) rfl) rfl) rfl) rfl) rfl) rfl) rfl) rfl) rfl)) ?_
  refine W_weak (weak_nilB (j := 3) (i := 0) (e := 31) (sz := 64) rfl rfl (by first | exact .here | exact .there (.here) rfl | exact .there (.there (.here) rfl) rfl | exact .there (.there (.there (.here) rfl) rfl) rfl | exact .there (.there (.there (.there (.here) rfl) rfl) rfl) rfl | exact .there (.there (.there (.there (.there (.here) rfl) rfl) rfl) rfl) rfl | exact .there (.there (.there (.there (.there (.there (.here) rfl) rfl) rfl) rfl) rfl) rfl | exact .there (.there (.there (.there (.there (.there (.there (.here) rfl) rfl) rfl) rfl) rfl) rfl) rfl | exact .there (.there (.there (.there (.there (.there (.there (.there (.here) rfl) rfl) rfl) rfl) rfl) rfl) rfl) rfl | exact .there (.there (.there (.there (.there (.there (.there (.there (.there (.here) rfl) rfl) rfl) rfl) rfl) rfl) rfl) rfl) rfl | exact .there (.there (.there (.there (.there (.there (.there (.there (.there (.there (.here) rfl) rfl) rfl) rfl) rfl) rfl) rfl) rfl) rfl) rfl | exact .there (.there (.there (.there (.there (.there (.there (.there (.there (.there (.there (.here) rfl) rfl) rfl) rfl) rfl) rfl) rfl) rfl) rfl) rfl) rfl | exact .there (.there (.there (.there (.there (.there (.there (.there (.there (.there (.there (.there (.here) rfl) rfl) rfl) rfl) rfl) rfl) rfl) rfl) rfl) rfl) rfl) rfl | exact .there (.there (.there (.there (.there (.there (.there (.there (.there (.there (.there (.there (.there (.here) rfl) rfl) rfl) rfl) rfl) rfl) rfl) rfl) rfl) rfl) rfl) rfl) rfl)) ?_
  refine W_range (T := 13) (G := []) [0, 1, 2, 3, 4, 5, 6, 7, 8, 9] hC hro rfl rfl rfl rfl Try.func24 rfl rfl (by decide) rfl rfl rfl glob_nil rfl (by simp) (fun k hk => by first | exact absurd hk (Nat.not_lt_zero _) | (have hk2 : k < 0 := hk; have : k = 0 ∨ k = 1 ∨ k = 2 ∨ k = 3 := (by omega); rcases this with rfl | rfl | rfl | rfl <;> first | decide | omega)) (by show ∀ k ∈ _, k < 12; decide) (fun ρ1 w1 H1 l1 r1 hI1 hR1 => ?_)
  refine W_blk ?_
  refine W_loopW (fun (ζ : Nat) => ⟨12, [(0, .f (1000000000 + l1) []), (1, .p 4 0), (2, .p 5 0), (3, .p 6 0), (5000000, .rp [])], [(0, .blk 29 (I .u8 key)), (1, .blk 30 (I .u8 nonce)), (2, .blk 42 [.row 10]), (3, .blk 42 [.row 11]), (4, .blk 29 (I .u8 key)), (5, .blk 22 [.i .u32 (nn n ζ)]), (6, .blk 30 (I .u8 nonce)), (7, .blk 29 (I .u8 key)), (8, .blk 22 [.i .u32 (nn n 1)]), (9, .blk 30 (I .u8 nonce)), (10, .row 31 64 ζ (I .u8 (blkS key n nonce ζ))), (11, .row 31 64 0 (I .u8 []))]⟩) (fun ζ => ζ ≤ 5) (fun ζ => 5 - ζ) (0) (by simp) (weakK (fun k => k) (.cons rfl (by first | exact ren_agI | exact ren_vsI | exact ren_free _ _ (by first | exact inSL_I _ | simp)) (by first | exact inSL_I _ | simp) (.cons rfl (by first | rfl | simp) (by show _ < _; decide) (.cons rfl (by first | rfl | simp) (by show _ < _; decide) (.cons rfl (by first | rfl | simp) (by show _ < _; decide) (.cons rfl (by first | exact ren_agI | exact ren_vsI | exact ren_free _ _ (by first | exact inSL_I _ | simp)) (by first | exact inSL_I _ | simp) .nil))))) (.cons rfl (by first | exact ren_blkI | exact ren_rowI | exact Blk.ren_free (by simp) _ | rfl) rfl (by first | exact inSL_I _ | simp) (.cons rfl (by first | exact ren_blkI | exact ren_rowI | exact Blk.ren_free (by simp) _ | rfl) rfl (by first | exact inSL_I _ | simp) (.cons rfl rfl rfl (by first | exact inSL_I _ | simp) (.cons rfl rfl rfl (by first | exact inSL_I _ | simp) (.cons rfl (by first | exact ren_blkI | exact ren_rowI | exact Blk.ren_free (by simp) _ | rfl) rfl (by first | exact inSL_I _ | simp) (.cons rfl (by rw [nn_zero hn]; rfl) rfl (by first | exact inSL_I _ | simp) (.cons rfl (by first | exact ren_blkI | exact ren_rowI | exact Blk.ren_free (by simp) _ | rfl) rfl (by first | exact inSL_I _ | simp) (.cons rfl (by first | exact ren_blkI | exact ren_rowI | exact Blk.ren_free (by simp) _ | rfl) rfl (by first | exact inSL_I _ | simp) (.cons rfl rfl rfl (by first | exact inSL_I _ | simp) (.cons rfl (by first | exact ren_blkI | exact ren_rowI | exact Blk.ren_free (by simp) _ | rfl) rfl (by first | exact inSL_I _ | simp) (.cons rfl (renRow (l' := []) rfl blkS_zero) rfl (by first | exact inSL_I _ | simp) (.cons rfl (renRow (l' := []) rfl rfl) rfl (by first | exact inSL_I _ | simp) .nil)))))))))))) rfl rfl rfl) ?_
  intro i hR
  replace hR : i ≤ 5 := hR
  first | show W _ _ _ ⟨12, [(0, .f (1000000000 + l1) []), (1, .p 4 0), (2, .p 5 0), (3, .p 6 0), (5000000, .rp [])], [(0, .blk 29 (I .u8 key)), (1, .blk 30 (I .u8 nonce)), (2, .blk 42 [.row 10]), (3, .blk 42 [.row 11]), (4, .blk 29 (I .u8 key)), (5, .blk 22 [.i .u32 (nn n i)]), (6, .blk 30 (I .u8 nonce)), (7, .blk 29 (I .u8 key)), (8, .blk 22 [.i .u32 (nn n 1)]), (9, .blk 30 (I .u8 nonce)), (10, .row 31 64 i (I .u8 (blkS key n nonce i))), (11, .row 31 64 0 (I .u8 []))]⟩ | skip
  have hnn := nn_range (n := n) (i := i)
  have hli := length_blk key (nn n i) nonce
  have hls := length_blkS key n nonce i
  refine W_seq ?_
  refine W_seq ?_
  refine W_region ?_
  refine WL_cons hI1.fn (.plain rfl (oc_move hI1 (.tmp rfl) rfl rfl)) ?_
  refine WL_cons hI1.fn (.plain rfl (oc_load hI1 (.tmp rfl) (by first | exact .p rfl | exact .rp) shp_29 (by first | exact unit_blkI (by first | omega | (simp <;> fail) | (simp; omega)) | exact unit_rowI (by first | omega | (simp; omega)) | exact unit_all (by first | omega | (simp <;> fail) | (simp; omega)) | exact unit_takeI0 (by first | omega | (simp; omega)) | exact unit_takeI (by first | omega | (simp; omega)) | exact unit_agg rfl) rfl rfl)) ?_
  refine WL_cons hI1.fn (.plain rfl (oc_load hI1 (.tmp rfl) (by first | exact .p rfl | exact .rp) shp_22 (by first | exact unit_one rfl | exact unit_I (by first | omega | (simp; omega)) | exact unit_c rfl (by decide) | exact unit_c rfl (by simp)) rfl rfl)) ?_
  refine WL_cons hI1.fn (.plain rfl (oc_load hI1 (.tmp rfl) (by first | exact .p rfl | exact .rp) shp_30 (by first | exact unit_blkI (by first | omega | (simp <;> fail) | (simp; omega)) | exact unit_rowI (by first | omega | (simp; omega)) | exact unit_all (by first | omega | (simp <;> fail) | (simp; omega)) | exact unit_takeI0 (by first | omega | (simp; omega)) | exact unit_takeI (by first | omega | (simp; omega)) | exact unit_agg rfl) rfl rfl)) ?_
  refine WL_cons hI1.fn (.plain rfl (oc_call hI1 (.cons (.tmp rfl) (.cons (.tmp rfl) (.cons (.tmp rfl) .nil))) (.cons1 (.free (by first | exact inSL_I _ | simp)) (.cons1 (.free (by first | exact inSL_I _ | simp)) (.cons1 (.free (by first | exact inSL_I _ | simp)) (.same (by first | exact inSL_I _ | simp))))) (block_c _ _ _ hk hnc hk8 hc8 hnn) glob_nil (by first | exact inSL_I _ | simp) (by first | exact .inl rfl | exact .inr (by simp)) rfl rfl)) ?_
  refine WL_yield [0, 1, 2, 3, 4, 5, 6, 7, 8, 9, 10, 11] hR1 hI1 rfl rfl (.cons (.tmp rfl) .nil) rfl rfl rfl rfl rfl rfl (by decide) (by simp) (by show ∀ k ∈ _, k < 12; decide) (fun ρb wb Hb hB => ?_)
  refine W_region ?_
  refine WL_cons hB.fn (.plain rfl (ox_alloc hB zero_31 rfl rfl rfl)) ?_
  refine WL_cons hB.fn (.plain rfl (ox_store hB (.tmp rfl) (.tmp rfl) rfl shp_31 (by first | rfl | exact flat_agI) (by rw [cells_ag, length_I, hli]) (by first | exact Nat.le_refl _ | exact Nat.le_of_ble_eq_true rfl | decide | (simp <;> fail) | (simp; omega)) (put_allI (by rw [hli]; rfl)) (by first | exact .here | exact .there (.here) rfl | exact .there (.there (.here) rfl) rfl | exact .there (.there (.there (.here) rfl) rfl) rfl | exact .there (.there (.there (.there (.here) rfl) rfl) rfl) rfl | exact .there (.there (.there (.there (.there (.here) rfl) rfl) rfl) rfl) rfl | exact .there (.there (.there (.there (.there (.there (.here) rfl) rfl) rfl) rfl) rfl) rfl | exact .there (.there (.there (.there (.there (.there (.there (.here) rfl) rfl) rfl) rfl) rfl) rfl) rfl | exact .there (.there (.there (.there (.there (.there (.there (.there (.here) rfl) rfl) rfl) rfl) rfl) rfl) rfl) rfl | exact .there (.there (.there (.there (.there (.there (.there (.there (.there (.here) rfl) rfl) rfl) rfl) rfl) rfl) rfl) rfl) rfl) rfl)) ?_
  refine WL_nil ?_
  refine ⟨rfl, ?_⟩
  refine W_blk ?_
  refine W_seq ?_
  refine W_region ?_
  refine WL_cons hB.fn (.plain rfl (oc_load hB (.tmp rfl) (by first | exact .p rfl | exact .rp) shp_42 (by first | exact unit_one rfl | exact unit_I (by first | omega | (simp; omega)) | exact unit_c rfl (by decide) | exact unit_c rfl (by simp)) rfl rfl)) ?_
  refine WL_cons hB.fn (.plain rfl (oc_load hB (.tmp rfl) (by first | exact .p rfl | exact .rp) shp_31 (by exact (unit_all hli)) rfl rfl)) ?_
  refine WL_cons hB.fn (.plain rfl (ox_lit1 hB (.tmp rfl) Try.underlying42 cells_31 zero_31 (by simp) (by decide) (by rw [length_I, hli]) (by first | exact one_I | rfl) rfl rfl)) ?_
  refine WL_cons hB.fn (.plain rfl (ox_append (cs' := I .u8 (blkS key n nonce (i + 1))) hB (.tmp rfl) (.tmp rfl) (by first | exact .row rfl rfl (by first | exact .here rfl | exact .there (.here rfl) rfl | exact .there (.there (.here rfl) rfl) rfl | exact .there (.there (.there (.here rfl) rfl) rfl) rfl | exact .there (.there (.there (.there (.here rfl) rfl) rfl) rfl) rfl | exact .there (.there (.there (.there (.there (.here rfl) rfl) rfl) rfl) rfl) rfl | exact .there (.there (.there (.there (.there (.there (.here rfl) rfl) rfl) rfl) rfl) rfl) rfl | exact .there (.there (.there (.there (.there (.there (.there (.here rfl) rfl) rfl) rfl) rfl) rfl) rfl) rfl | exact .there (.there (.there (.there (.there (.there (.there (.there (.here rfl) rfl) rfl) rfl) rfl) rfl) rfl) rfl) rfl | exact .there (.there (.there (.there (.there (.there (.there (.there (.there (.here rfl) rfl) rfl) rfl) rfl) rfl) rfl) rfl) rfl) rfl | exact .there (.there (.there (.there (.there (.there (.there (.there (.there (.there (.here rfl) rfl) rfl) rfl) rfl) rfl) rfl) rfl) rfl) rfl) rfl | exact .there (.there (.there (.there (.there (.there (.there (.there (.there (.there (.there (.here rfl) rfl) rfl) rfl) rfl) rfl) rfl) rfl) rfl) rfl) rfl) rfl | exact .there (.there (.there (.there (.there (.there (.there (.there (.there (.there (.there (.there (.here rfl) rfl) rfl) rfl) rfl) rfl) rfl) rfl) rfl) rfl) rfl) rfl) rfl | exact .there (.there (.there (.there (.there (.there (.there (.there (.there (.there (.there (.there (.there (.here rfl) rfl) rfl) rfl) rfl) rfl) rfl) rfl) rfl) rfl) rfl) rfl) rfl) rfl | exact .there (.there (.there (.there (.there (.there (.there (.there (.there (.there (.there (.there (.there (.there (.here rfl) rfl) rfl) rfl) rfl) rfl) rfl) rfl) rfl) rfl) rfl) rfl) rfl) rfl) rfl | exact .there (.there (.there (.there (.there (.there (.there (.there (.there (.there (.there (.there (.there (.there (.there (.here rfl) rfl) rfl) rfl) rfl) rfl) rfl) rfl) rfl) rfl) rfl) rfl) rfl) rfl) rfl) rfl) | exact .nils) (by first | exact .row rfl | exact .vs | exact .sl rfl | exact .nils) (by first | exact hro_nil | exact hro_one rfl) Try.underlying42 cells_31 bytes_31 zero_31 rfl (by decide) (by rw [length_I, hli]; decide) (by first | rfl | exact one_takeI) (by first | rfl | (simp <;> fail) | (simp; omega)) ((app_S hli).trans (by rw [blkS_succ])) (by simp only [maxLen]; omega) (by omega) rfl rfl)) ?_
  refine WL_cons hB.fn (.plain rfl (ox_store hB (.tmp rfl) (.tmp rfl) rfl shp_42 (by first | rfl | exact flat_agI) (by first | exact cells1 rfl | (rw [cells_ag, length_I]; omega) | rfl | (simp <;> fail) | (simp; omega)) (by first | exact Nat.le_refl _ | exact Nat.le_of_ble_eq_true rfl | decide | (simp <;> fail) | (simp; omega)) (by first | exact put_one rfl | exact put_blkI (by first | omega | (simp; omega)) | exact put_rowI (by first | omega | (simp; omega)) | rfl) (by first | exact .here | exact .there (.here) rfl | exact .there (.there (.here) rfl) rfl | exact .there (.there (.there (.here) rfl) rfl) rfl | exact .there (.there (.there (.there (.here) rfl) rfl) rfl) rfl | exact .there (.there (.there (.there (.there (.here) rfl) rfl) rfl) rfl) rfl | exact .there (.there (.there (.there (.there (.there (.here) rfl) rfl) rfl) rfl) rfl) rfl | exact .there (.there (.there (.there (.there (.there (.there (.here) rfl) rfl) rfl) rfl) rfl) rfl) rfl | exact .there (.there (.there (.there (.there (.there (.there (.there (.here) rfl) rfl) rfl) rfl) rfl) rfl) rfl) rfl | exact .there (.there (.there (.there (.there (.there (.there (.there (.there (.here) rfl) rfl) rfl) rfl) rfl) rfl) rfl) rfl) rfl) rfl)) ?_
  refine WL_nil ?_
  refine W_seq ?_
  refine W_region ?_
  refine WL_cons hB.fn (.plain rfl (oc_load hB (.tmp rfl) (by first | exact .p rfl | exact .rp) shp_42 (by first | exact unit_one rfl | exact unit_I (by first | omega | (simp; omega)) | exact unit_c rfl (by decide) | exact unit_c rfl (by simp)) rfl rfl)) ?_
  refine WL_cons hB.fn (.plain rfl (ox_len hB (.tmp rfl) (by first | exact .row rfl | exact .vs | exact .sl rfl | exact .nils) Try.underlying42 rfl rfl rfl)) ?_
  refine WL_cons hB.fn (.plain rfl (ox_cmp hB rfl (.tmp rfl) .cint rfl rfl rfl)) ?_
  refine WL_nil ?_
  refine W_cond rfl (by decide) (fun hc => ?_) (fun hc => ?_)
  ·
    replace hc := eql_t hc
    obtain rfl : i = 5 := by omega
    refine W_exit ?_
    refine rd_x (by rfl) ?_
    refine WL_nil ?_
    refine W_cond rfl (by decide) (fun hc => by cases hc) (fun _ => ?_)
    refine W_exit ?_
    refine rq_x 0 (.inl rfl) (by rfl) ?_
    refine W_seq ?_
    refine W_seq ?_
    refine W_region ?_
    refine WL_cons hC.fn (.plain rfl (oc_move hC (.tmp rfl) rfl rfl)) ?_
    refine WL_nil ?_
    refine W_blk ?_
    refine W_range (T := 13) (G := []) [0, 1, 2, 3, 4, 5, 6, 7, 8, 9] hC hro rfl rfl rfl rfl Try.func24 rfl rfl (by decide) rfl rfl rfl glob_nil rfl (by simp) (fun k hk => by first | exact absurd hk (Nat.not_lt_zero _) | (have hk2 : k < 0 := hk; have : k = 0 ∨ k = 1 ∨ k = 2 ∨ k = 3 := (by omega); rcases this with rfl | rfl | rfl | rfl <;> first | decide | omega)) (by show ∀ k ∈ _, k < 14; decide) (fun ρ2 w2 H2 l2 r2 hI2 hR2 => ?_)
    refine W_blk ?_
    refine W_loopW (fun (ζ : Nat) => ⟨12, [(0, .f (1000000000 + l2) []), (1, .p 7 0), (2, .p 8 0), (3, .p 9 0), (5000000, .rp [])], [(0, .blk 29 (I .u8 key)), (1, .blk 30 (I .u8 nonce)), (2, .blk 42 [.row 10]), (3, .blk 42 [.row 11]), (4, .blk 29 (I .u8 key)), (6, .blk 30 (I .u8 nonce)), (7, .blk 29 (I .u8 key)), (8, .blk 22 [.i .u32 (nn (nn n 1) ζ)]), (9, .blk 30 (I .u8 nonce)), (10, .row 31 64 6 (I .u8 (blkS key n nonce 6))), (11, .row 31 64 ζ (I .u8 (blkS key (nn n 1) nonce ζ)))]⟩) (fun ζ => ζ ≤ 4) (fun ζ => 4 - ζ) (0) (by simp) (weakK (fun k => bif Nat.beq k 10 then 13 else k) (.cons rfl (by first | exact ren_agI | exact ren_vsI | exact ren_free _ _ (by first | exact inSL_I _ | simp)) (by first | exact inSL_I _ | simp) (.cons rfl (by first | rfl | simp) (by show _ < _; decide) (.cons rfl (by first | rfl | simp) (by show _ < _; decide) (.cons rfl (by first | rfl | simp) (by show _ < _; decide) (.cons rfl (by first | exact ren_agI | exact ren_vsI | exact ren_free _ _ (by first | exact inSL_I _ | simp)) (by first | exact inSL_I _ | simp) .nil))))) (.cons rfl (by first | exact ren_blkI | exact ren_rowI | exact Blk.ren_free (by simp) _ | rfl) rfl (by first | exact inSL_I _ | simp) (.cons rfl (by first | exact ren_blkI | exact ren_rowI | exact Blk.ren_free (by simp) _ | rfl) rfl (by first | exact inSL_I _ | simp) (.cons rfl rfl rfl (by first | exact inSL_I _ | simp) (.cons rfl rfl rfl (by first | exact inSL_I _ | simp) (.cons rfl (by first | exact ren_blkI | exact ren_rowI | exact Blk.ren_free (by simp) _ | rfl) rfl (by first | exact inSL_I _ | simp) (.cons rfl (by first | exact ren_blkI | exact ren_rowI | exact Blk.ren_free (by simp) _ | rfl) rfl (by first | exact inSL_I _ | simp) (.cons rfl (by first | exact ren_blkI | exact ren_rowI | exact Blk.ren_free (by simp) _ | rfl) rfl (by first | exact inSL_I _ | simp) (.cons rfl (by rw [nn_zero hn1]; rfl) rfl (by first | exact inSL_I _ | simp) (.cons rfl (by first | exact ren_blkI | exact ren_rowI | exact Blk.ren_free (by simp) _ | rfl) rfl (by first | exact inSL_I _ | simp) (.cons rfl (renRow rfl rfl) rfl (by first | exact inSL_I _ | simp) (.cons rfl (renRow (l' := []) rfl blkS_zero) rfl (by first | exact inSL_I _ | simp) .nil))))))))))) rfl rfl rfl) ?_
    intro i hR
    replace hR : i ≤ 4 := hR
    first | show W _ _ _ ⟨12, [(0, .f (1000000000 + l2) []), (1, .p 7 0), (2, .p 8 0), (3, .p 9 0), (5000000, .rp [])], [(0, .blk 29 (I .u8 key)), (1, .blk 30 (I .u8 nonce)), (2, .blk 42 [.row 10]), (3, .blk 42 [.row 11]), (4, .blk 29 (I .u8 key)), (6, .blk 30 (I .u8 nonce)), (7, .blk 29 (I .u8 key)), (8, .blk 22 [.i .u32 (nn (nn n 1) i)]), (9, .blk 30 (I .u8 nonce)), (10, .row 31 64 6 (I .u8 (blkS key n nonce 6))), (11, .row 31 64 i (I .u8 (blkS key (nn n 1) nonce i)))]⟩ | skip
    have hnn := nn_range (n := (nn n 1)) (i := i)
    have hli := length_blk key (nn (nn n 1) i) nonce
    have hls := length_blkS key (nn n 1) nonce i
    refine W_seq ?_
    refine W_seq ?_
    refine W_region ?_
    refine WL_cons hI2.fn (.plain rfl (oc_move hI2 (.tmp rfl) rfl rfl)) ?_
    refine WL_cons hI2.fn (.plain rfl (oc_load hI2 (.tmp rfl) (by first | exact .p rfl | exact .rp) shp_29 (by first | exact unit_blkI (by first | omega | (simp <;> fail) | (simp; omega)) | exact unit_rowI (by first | omega | (simp; omega)) | exact unit_all (by first | omega | (simp <;> fail) | (simp; omega)) | exact unit_takeI0 (by first | omega | (simp; omega)) | exact unit_takeI (by first | omega | (simp; omega)) | exact unit_agg rfl) rfl rfl)) ?_
    refine WL_cons hI2.fn (.plain rfl (oc_load hI2 (.tmp rfl) (by first | exact .p rfl | exact .rp) shp_22 (by first | exact unit_one rfl | exact unit_I (by first | omega | (simp; omega)) | exact unit_c rfl (by decide) | exact unit_c rfl (by simp)) rfl rfl)) ?_
    refine WL_cons hI2.fn (.plain rfl (oc_load hI2 (.tmp rfl) (by first | exact .p rfl | exact .rp) shp_30 (by first | exact unit_blkI (by first | omega | (simp <;> fail) | (simp; omega)) | exact unit_rowI (by first | omega | (simp; omega)) | exact unit_all (by first | omega | (simp <;> fail) | (simp; omega)) | exact unit_takeI0 (by first | omega | (simp; omega)) | exact unit_takeI (by first | omega | (simp; omega)) | exact unit_agg rfl) rfl rfl)) ?_
    refine WL_cons hI2.fn (.plain rfl (oc_call hI2 (.cons (.tmp rfl) (.cons (.tmp rfl) (.cons (.tmp rfl) .nil))) (.cons1 (.free (by first | exact inSL_I _ | simp)) (.cons1 (.free (by first | exact inSL_I _ | simp)) (.cons1 (.free (by first | exact inSL_I _ | simp)) (.same (by first | exact inSL_I _ | simp))))) (block_c _ _ _ hk hnc hk8 hc8 hnn) glob_nil (by first | exact inSL_I _ | simp) (by first | exact .inl rfl | exact .inr (by simp)) rfl rfl)) ?_
    refine WL_yield [0, 1, 2, 3, 4, 5, 6, 7, 8, 9, 10, 11] hR2 hI2 rfl rfl (.cons (.tmp rfl) .nil) rfl rfl rfl rfl rfl rfl (by decide) (by simp) (by show ∀ k ∈ _, k < 12; decide) (fun ρb wb Hb hB => ?_)
    refine W_region ?_
    refine WL_cons hB.fn (.plain rfl (ox_alloc hB zero_31 rfl rfl rfl)) ?_
    refine WL_cons hB.fn (.plain rfl (ox_store hB (.tmp rfl) (.tmp rfl) rfl shp_31 (by first | rfl | exact flat_agI) (by rw [cells_ag, length_I, hli]) (by first | exact Nat.le_refl _ | exact Nat.le_of_ble_eq_true rfl | decide | (simp <;> fail) | (simp; omega)) (put_allI (by rw [hli]; rfl)) (by first | exact .here | exact .there (.here) rfl | exact .there (.there (.here) rfl) rfl | exact .there (.there (.there (.here) rfl) rfl) rfl | exact .there (.there (.there (.there (.here) rfl) rfl) rfl) rfl | exact .there (.there (.there (.there (.there (.here) rfl) rfl) rfl) rfl) rfl | exact .there (.there (.there (.there (.there (.there (.here) rfl) rfl) rfl) rfl) rfl) rfl | exact .there (.there (.there (.there (.there (.there (.there (.here) rfl) rfl) rfl) rfl) rfl) rfl) rfl | exact .there (.there (.there (.there (.there (.there (.there (.there (.here) rfl) rfl) rfl) rfl) rfl) rfl) rfl) rfl | exact .there (.there (.there (.there (.there (.there (.there (.there (.there (.here) rfl) rfl) rfl) rfl) rfl) rfl) rfl) rfl) rfl) rfl)) ?_
    refine WL_nil ?_
    refine ⟨rfl, ?_⟩
    refine W_blk ?_
    refine W_seq ?_
    refine W_region ?_
    refine WL_cons hB.fn (.plain rfl (oc_load hB (.tmp rfl) (by first | exact .p rfl | exact .rp) shp_42 (by first | exact unit_one rfl | exact unit_I (by first | omega | (simp; omega)) | exact unit_c rfl (by decide) | exact unit_c rfl (by simp)) rfl rfl)) ?_
    refine WL_cons hB.fn (.plain rfl (oc_load hB (.tmp rfl) (by first | exact .p rfl | exact .rp) shp_31 (by exact (unit_all hli)) rfl rfl)) ?_
    refine WL_cons hB.fn (.plain rfl (ox_lit1 hB (.tmp rfl) Try.underlying42 cells_31 zero_31 (by simp) (by decide) (by rw [length_I, hli]) (by first | exact one_I | rfl) rfl rfl)) ?_
    refine WL_cons hB.fn (.plain rfl (ox_append (cs' := I .u8 (blkS key (nn n 1) nonce (i + 1))) hB (.tmp rfl) (.tmp rfl) (by first | exact .row rfl rfl (by first | exact .here rfl | exact .there (.here rfl) rfl | exact .there (.there (.here rfl) rfl) rfl | exact .there (.there (.there (.here rfl) rfl) rfl) rfl | exact .there (.there (.there (.there (.here rfl) rfl) rfl) rfl) rfl | exact .there (.there (.there (.there (.there (.here rfl) rfl) rfl) rfl) rfl) rfl | exact .there (.there (.there (.there (.there (.there (.here rfl) rfl) rfl) rfl) rfl) rfl) rfl | exact .there (.there (.there (.there (.there (.there (.there (.here rfl) rfl) rfl) rfl) rfl) rfl) rfl) rfl | exact .there (.there (.there (.there (.there (.there (.there (.there (.here rfl) rfl) rfl) rfl) rfl) rfl) rfl) rfl) rfl | exact .there (.there (.there (.there (.there (.there (.there (.there (.there (.here rfl) rfl) rfl) rfl) rfl) rfl) rfl) rfl) rfl) rfl | exact .there (.there (.there (.there (.there (.there (.there (.there (.there (.there (.here rfl) rfl) rfl) rfl) rfl) rfl) rfl) rfl) rfl) rfl) rfl | exact .there (.there (.there (.there (.there (.there (.there (.there (.there (.there (.there (.here rfl) rfl) rfl) rfl) rfl) rfl) rfl) rfl) rfl) rfl) rfl) rfl | exact .there (.there (.there (.there (.there (.there (.there (.there (.there (.there (.there (.there (.here rfl) rfl) rfl) rfl) rfl) rfl) rfl) rfl) rfl) rfl) rfl) rfl) rfl | exact .there (.there (.there (.there (.there (.there (.there (.there (.there (.there (.there (.there (.there (.here rfl) rfl) rfl) rfl) rfl) rfl) rfl) rfl) rfl) rfl) rfl) rfl) rfl) rfl | exact .there (.there (.there (.there (.there (.there (.there (.there (.there (.there (.there (.there (.there (.there (.here rfl) rfl) rfl) rfl) rfl) rfl) rfl) rfl) rfl) rfl) rfl) rfl) rfl) rfl) rfl | exact .there (.there (.there (.there (.there (.there (.there (.there (.there (.there (.there (.there (.there (.there (.there (.here rfl) rfl) rfl) rfl) rfl) rfl) rfl) rfl) rfl) rfl) rfl) rfl) rfl) rfl) rfl) rfl) | exact .nils) (by first | exact .row rfl | exact .vs | exact .sl rfl | exact .nils) (by first | exact hro_nil | exact hro_one rfl) Try.underlying42 cells_31 bytes_31 zero_31 rfl (by decide) (by rw [length_I, hli]; decide) (by first | rfl | exact one_takeI) (by first | rfl | (simp <;> fail) | (simp; omega)) ((app_S hli).trans (by rw [blkS_succ])) (by simp only [maxLen]; omega) (by omega) rfl rfl)) ?_
    refine WL_cons hB.fn (.plain rfl (ox_store hB (.tmp rfl) (.tmp rfl) rfl shp_42 (by first | rfl | exact flat_agI) (by first | exact cells1 rfl | (rw [cells_ag, length_I]; omega) | rfl | (simp <;> fail) | (simp; omega)) (by first | exact Nat.le_refl _ | exact Nat.le_of_ble_eq_true rfl | decide | (simp <;> fail) | (simp; omega)) (by first | exact put_one rfl | exact put_blkI (by first | omega | (simp; omega)) | exact put_rowI (by first | omega | (simp; omega)) | rfl) (by first | exact .here | exact .there (.here) rfl | exact .there (.there (.here) rfl) rfl | exact .there (.there (.there (.here) rfl) rfl) rfl | exact .there (.there (.there (.there (.here) rfl) rfl) rfl) rfl | exact .there (.there (.there (.there (.there (.here) rfl) rfl) rfl) rfl) rfl | exact .there (.there (.there (.there (.there (.there (.here) rfl) rfl) rfl) rfl) rfl) rfl | exact .there (.there (.there (.there (.there (.there (.there (.here) rfl) rfl) rfl) rfl) rfl) rfl) rfl | exact .there (.there (.there (.there (.there (.there (.there (.there (.here) rfl) rfl) rfl) rfl) rfl) rfl) rfl) rfl | exact .there (.there (.there (.there (.there (.there (.there (.there (.there (.here) rfl) rfl) rfl) rfl) rfl) rfl) rfl) rfl) rfl) rfl)) ?_
    refine WL_nil ?_
    refine W_seq ?_
    refine W_region ?_
    refine WL_cons hB.fn (.plain rfl (oc_load hB (.tmp rfl) (by first | exact .p rfl | exact .rp) shp_42 (by first | exact unit_one rfl | exact unit_I (by first | omega | (simp; omega)) | exact unit_c rfl (by decide) | exact unit_c rfl (by simp)) rfl rfl)) ?_
    refine WL_cons hB.fn (.plain rfl (ox_len hB (.tmp rfl) (by first | exact .row rfl | exact .vs | exact .sl rfl | exact .nils) Try.underlying42 rfl rfl rfl)) ?_
    refine WL_cons hB.fn (.plain rfl (ox_cmp hB rfl (.tmp rfl) .cint rfl rfl rfl)) ?_
    refine WL_nil ?_
    refine W_cond rfl (by decide) (fun hc => ?_) (fun hc => ?_)
    ·
      replace hc := eql_t hc
      obtain rfl : i = 4 := by omega
      have hl6 := length_blkS key n nonce 6
      have hl5 := length_blkS key (nn n 1) nonce 5
      refine W_exit ?_
      refine rd_x (by rfl) ?_
      refine WL_nil ?_
      refine W_cond rfl (by decide) (fun hc => by cases hc) (fun _ => ?_)
      refine W_exit ?_
      refine rq_x 2 (.inl rfl) (by rfl) ?_
      refine W_seq ?_
      refine W_seq ?_
      refine W_region ?_
      refine WL_cons hC.fn (.plain rfl (oc_load hC (.tmp rfl) (by first | exact .p rfl | exact .rp) shp_42 (by first | exact unit_one rfl | exact unit_I (by first | omega | (simp; omega)) | exact unit_c rfl (by decide) | exact unit_c rfl (by simp)) rfl rfl)) ?_
      refine WL_cons hC.fn (.plain rfl (ox_len hC (.tmp rfl) (by first | exact .row rfl | exact .vs | exact .sl rfl | exact .nils) Try.underlying42 rfl rfl rfl)) ?_
      refine WL_cons hC.fn (.plain rfl (oc_move hC .cint rfl rfl)) ?_
      refine WL_nil ?_
      refine W_blk ?_
      refine W_loopW (fun (ζ : Nat) => ⟨4, [(7, .p 0 0), (8, .p 1 0), (48, .i .i64 5), (49, .i .i64 ζ)], [(0, .blk 42 [.row 2]), (1, .blk 42 [.row 3]), (2, .row 31 64 6 (I .u8 (blkS key n nonce 6))), (3, .row 31 64 5 (I .u8 (blkS key (nn n 1) nonce 5)))]⟩) (fun ζ => ζ ≤ 5) (fun ζ => 5 - ζ) (0) (by simp) (weak (fun k => bif Nat.beq k 3 then 13 else bif Nat.beq k 2 then 10 else bif Nat.beq k 1 then 3 else bif Nat.beq k 0 then 2 else k) (.cons rfl (by first | rfl | simp) (by show _ < _; decide) (.cons rfl (by first | rfl | simp) (by show _ < _; decide) (.cons rfl (by first | rfl | exact congrArg (AV.i _) (by omega) | exact congrArg (AV.i _) (by simp; omega)) trivial (.cons rfl rfl trivial .nil)))) (.cons rfl rfl rfl (by first | exact inSL_I _ | simp) (.cons rfl rfl rfl (by first | exact inSL_I _ | simp) (.cons rfl (renRow rfl rfl) rfl (by first | exact inSL_I _ | simp) (.cons rfl (renRow rfl rfl) rfl (by first | exact inSL_I _ | simp) .nil)))) rfl rfl rfl) ?_
      intro k hR
      replace hR : k ≤ 5 := hR
      first | show W _ _ _ ⟨4, [(7, .p 0 0), (8, .p 1 0), (48, .i .i64 5), (49, .i .i64 k)], [(0, .blk 42 [.row 2]), (1, .blk 42 [.row 3]), (2, .row 31 64 6 (I .u8 (blkS key n nonce 6))), (3, .row 31 64 5 (I .u8 (blkS key (nn n 1) nonce 5)))]⟩ | skip
      have hla := length_blk key (nn n (k + 1)) nonce
      have hlc := length_blk key (nn (nn n 1) k) nonce
      have ha8 := B8_blk key (nn n (k + 1)) nonce
      have hc8 := B8_blk key (nn (nn n 1) k) nonce
      refine W_seq ?_
      refine W_region ?_
      refine WL_cons hC.fn (.plain rfl (ox_cmp hC rfl (.tmp rfl) (.tmp rfl) rfl rfl rfl)) ?_
      refine WL_nil ?_
      refine W_seq ?_
      refine W_cond rfl (by decide) (fun hc => ?_) (fun hc => ?_)
      ·
        replace hc := lss_t hc
        
        refine W_skip ?_
        refine W_seq ?_
        refine W_blk ?_
        refine W_seq ?_
        refine W_region ?_
        refine WL_cons hC.fn (.plain rfl (oc_move hC (.tmp rfl) rfl rfl)) ?_
        refine WL_cons hC.fn (.plain rfl (oc_assign hC (.tmp rfl) rfl rfl)) ?_
        refine WL_nil ?_
        refine W_seq ?_
        refine W_drawD hC ?_
        refine WD_cons (.plain rfl (oc_load hC (.tmp rfl) (by first | exact .p rfl | exact .rp) shp_42 (by first | exact unit_one rfl | exact unit_I (by first | omega | (simp; omega)) | exact unit_c rfl (by decide) | exact unit_c rfl (by simp)) rfl rfl)) ?_
        refine WD_cons (.plain rfl (ox_len hC (.tmp rfl) (by first | exact .row rfl | exact .vs | exact .sl rfl | exact .nils) Try.underlying42 rfl rfl rfl)) ?_
        refine WD_cons (.plain rfl (ox_cmp hC rfl (.tmp rfl) .cint (r := false) rfl rfl rfl)) ?_
        refine WD_cons (.plain rfl (oc_move hC (.tmp rfl) rfl rfl)) ?_
        refine WD_cons (.yes rfl rfl (by decide) rfl (oc_load hC (.tmp rfl) (by first | exact .p rfl | exact .rp) shp_42 (by first | exact unit_one rfl | exact unit_I (by first | omega | (simp; omega)) | exact unit_c rfl (by decide) | exact unit_c rfl (by simp)) rfl rfl)) ?_
        refine WD_cons (.yes rfl rfl (by decide) rfl (oc_move hC (.tmp rfl) rfl rfl)) ?_
        refine WD_cons (.yes rfl rfl (by decide) rfl (oc_bin hC rfl (.tmp rfl) .cint (by first | exact i64_add (by omega) | rfl) rfl rfl)) ?_
        refine WD_cons (.yes rfl rfl (by decide) rfl (ox_indexS hC (j := k + 1) (.tmp rfl) (.tmp rfl) idx_42 (by first | rfl | omega | (simp; omega)) (by first | exact Nat.mul_one _ | rfl) (by first | exact .row rfl | exact .sl (Nat.zero_add _) | exact .sl rfl | exact .vs (by first | omega | (simp; omega))) (by first | omega | (simp; omega)) rfl rfl)) ?_
        refine WD_cons (.yes rfl rfl (by decide) rfl (oc_load hC (.tmp rfl) (by first | exact .p rfl | exact .rp) shp_31 (by exact (unit_cut (blkS_cut (by omega)) (by omega))) rfl rfl)) ?_
        refine WD_cons (.yes rfl rfl (by decide) rfl (oc_load hC (.tmp rfl) (by first | exact .p rfl | exact .rp) shp_42 (by first | exact unit_one rfl | exact unit_I (by first | omega | (simp; omega)) | exact unit_c rfl (by decide) | exact unit_c rfl (by simp)) rfl rfl)) ?_
        refine WD_cons (.yes rfl rfl (by decide) rfl (oc_move hC (.tmp rfl) rfl rfl)) ?_
        refine WD_cons (.yes rfl rfl (by decide) rfl (ox_indexS hC  (.tmp rfl) (.tmp rfl) idx_42 (by first | rfl | exact toNat_up (by omega)) (by first | exact Nat.mul_one _ | rfl) (by first | exact .row rfl | exact .sl (Nat.zero_add _) | exact .sl rfl | exact .vs (by first | omega | (simp; omega))) (by first | omega | (simp; omega)) rfl rfl)) ?_
        refine WD_cons (.yes rfl rfl (by decide) rfl (oc_load hC (.tmp rfl) (by first | exact .p rfl | exact .rp) shp_31 (by exact (unit_cut (blkS_cut (by omega)) (by omega))) rfl rfl)) ?_
        refine WD_cons (.yes rfl rfl (by decide) rfl (ox_eqI (r := false) hC (.inr rfl) (.tmp rfl) (.tmp rfl) sh_31 kt_31 sg_31 eg_31 hla hlc (wf_u8 ha8) (wf_u8 hc8) (by rw [nn_nn, Nat.add_comm 1 k]; simp) rfl rfl)) ?_
        refine WD_cons (.plain rfl (ox_pick hC (.tmp rfl) .cbool (.tmp rfl) (by first | exact pick_t | exact pick_f | rfl) rfl rfl)) ?_
        refine WD_nil (by kernel_rfl) ?_
        refine W_cond rfl (by decide) (fun hc => by cases hc) (fun _ => ?_)
        refine W_skip ?_
        refine W_region ?_
        refine WL_cons hC.fn (.plain rfl (oc_bin hC rfl (.tmp rfl) .cint (by first | exact i64_add (by omega) | rfl) rfl rfl)) ?_
        refine WL_cons hC.fn (.plain rfl (oc_move hC (.tmp rfl) rfl rfl)) ?_
        refine WL_nil ?_
        exact ⟨(k + 1), (by omega), (weak (fun k => k) (.cons rfl (by first | rfl | simp) (by show _ < _; decide) (.cons rfl (by first | rfl | simp) (by show _ < _; decide) (.cons rfl (by first | rfl | exact congrArg (AV.i _) (by omega) | exact congrArg (AV.i _) (by simp; omega)) trivial (.cons rfl (by first | rfl | exact congrArg (AV.i _) (by omega) | exact congrArg (AV.i _) (by simp; omega)) trivial .nil)))) (.cons rfl rfl rfl (by first | exact inSL_I _ | simp) (.cons rfl rfl rfl (by first | exact inSL_I _ | simp) (.cons rfl (renRow rfl rfl) rfl (by first | exact inSL_I _ | simp) (.cons rfl (renRow rfl rfl) rfl (by first | exact inSL_I _ | simp) .nil)))) rfl rfl rfl), (by omega)⟩
      ·
        replace hc := lss_f hc
        obtain rfl : k = 5 := by omega
        refine W_exit ?_
        refine W_seq ?_
        refine W_region ?_
        refine WL_cons hC.fn (.plain rfl (oc_load hC (.tmp rfl) (by first | exact .p rfl | exact .rp) shp_42 (by first | exact unit_one rfl | exact unit_I (by first | omega | (simp; omega)) | exact unit_c rfl (by decide) | exact unit_c rfl (by simp)) rfl rfl)) ?_
        refine WL_cons hC.fn (.plain rfl (ox_len hC (.tmp rfl) (by first | exact .row rfl | exact .vs | exact .sl rfl | exact .nils) Try.underlying42 rfl rfl rfl)) ?_
        refine WL_cons hC.fn (.plain rfl (ox_cmp hC rfl (.tmp rfl) .cint (r := true) rfl rfl rfl)) ?_
        refine WL_cons hC.fn (.plain rfl (oc_move hC (.tmp rfl) rfl rfl)) ?_
        refine WL_cons hC.fn (.yes rfl rfl (by decide) rfl (oc_call hC .nil (.same (by first | exact inSL_I _ | simp)) (awake05_c) glob_nil (by first | exact inSL_I _ | simp) (by first | exact .inl rfl | exact .inr (by simp)) rfl rfl)) ?_
        refine WL_cons hC.fn (.plain rfl (ox_pick hC (.tmp rfl) (.tmp rfl) .cbool (by first | exact pick_t | exact pick_f | rfl) rfl rfl)) ?_
        refine WL_cons hC.fn (.plain rfl (oc_assign hC (.tmp rfl) rfl rfl)) ?_
        refine WL_nil ?_
        refine W_ret ?_
        exact fin0 (.cons (.tmp rfl) .nil) rfl trivial
    ·
      replace hc := eql_f hc
      
      refine W_skip ?_
      refine rd_n (by rfl) ?_
      refine WL_nil ?_
      refine W_cond rfl (by decide) (fun _ => ?_) (fun hc => by cases hc)
      refine W_skip ?_
      refine W_blk ?_
      refine W_region ?_
      refine WL_cons hI2.fn (.plain rfl (oc_load hI2 (.tmp rfl) (by first | exact .p rfl | exact .rp) shp_22 (by first | exact unit_one rfl | exact unit_I (by first | omega | (simp; omega)) | exact unit_c rfl (by decide) | exact unit_c rfl (by simp)) rfl rfl)) ?_
      refine WL_cons hI2.fn (.plain rfl (oc_bin hI2 rfl (.tmp rfl) .cint (u32_wrap _) rfl rfl)) ?_
      refine WL_cons hI2.fn (.plain rfl (ox_store hI2 (.tmp rfl) (.tmp rfl) rfl shp_22 (by first | rfl | exact flat_agI) (by first | exact cells1 rfl | (rw [cells_ag, length_I]; omega) | rfl | (simp <;> fail) | (simp; omega)) (by first | exact Nat.le_refl _ | exact Nat.le_of_ble_eq_true rfl | decide | (simp <;> fail) | (simp; omega)) (by first | exact put_one rfl | exact put_blkI (by first | omega | (simp; omega)) | exact put_rowI (by first | omega | (simp; omega)) | rfl) (by first | exact .here | exact .there (.here) rfl | exact .there (.there (.here) rfl) rfl | exact .there (.there (.there (.here) rfl) rfl) rfl | exact .there (.there (.there (.there (.here) rfl) rfl) rfl) rfl | exact .there (.there (.there (.there (.there (.here) rfl) rfl) rfl) rfl) rfl | exact .there (.there (.there (.there (.there (.there (.here) rfl) rfl) rfl) rfl) rfl) rfl | exact .there (.there (.there (.there (.there (.there (.there (.here) rfl) rfl) rfl) rfl) rfl) rfl) rfl | exact .there (.there (.there (.there (.there (.there (.there (.there (.here) rfl) rfl) rfl) rfl) rfl) rfl) rfl) rfl | exact .there (.there (.there (.there (.there (.there (.there (.there (.there (.here) rfl) rfl) rfl) rfl) rfl) rfl) rfl) rfl) rfl) rfl)) ?_
      refine WL_nil ?_
      exact ⟨(i + 1), (by omega), (weakK (fun k => bif Nat.beq k 11 then 13 else k) (.cons rfl (by first | exact ren_agI | exact ren_vsI | exact ren_free _ _ (by first | exact inSL_I _ | simp)) (by first | exact inSL_I _ | simp) (.cons rfl (by first | rfl | simp) (by show _ < _; decide) (.cons rfl (by first | rfl | simp) (by show _ < _; decide) (.cons rfl (by first | rfl | simp) (by show _ < _; decide) (.cons rfl (by first | exact ren_agI | exact ren_vsI | exact ren_free _ _ (by first | exact inSL_I _ | simp)) (by first | exact inSL_I _ | simp) .nil))))) (.cons rfl (by first | exact ren_blkI | exact ren_rowI | exact Blk.ren_free (by simp) _ | rfl) rfl (by first | exact inSL_I _ | simp) (.cons rfl (by first | exact ren_blkI | exact ren_rowI | exact Blk.ren_free (by simp) _ | rfl) rfl (by first | exact inSL_I _ | simp) (.cons rfl rfl rfl (by first | exact inSL_I _ | simp) (.cons rfl rfl rfl (by first | exact inSL_I _ | simp) (.cons rfl (by first | exact ren_blkI | exact ren_rowI | exact Blk.ren_free (by simp) _ | rfl) rfl (by first | exact inSL_I _ | simp) (.cons rfl (by first | exact ren_blkI | exact ren_rowI | exact Blk.ren_free (by simp) _ | rfl) rfl (by first | exact inSL_I _ | simp) (.cons rfl (by first | exact ren_blkI | exact ren_rowI | exact Blk.ren_free (by simp) _ | rfl) rfl (by first | exact inSL_I _ | simp) (.cons rfl (by rw [← nn_succ]; rfl) rfl (by first | exact inSL_I _ | simp) (.cons rfl (by first | exact ren_blkI | exact ren_rowI | exact Blk.ren_free (by simp) _ | rfl) rfl (by first | exact inSL_I _ | simp) (.cons rfl (renRow rfl rfl) rfl (by first | exact inSL_I _ | simp) (.cons rfl (renRow rfl rfl) rfl (by first | exact inSL_I _ | simp) .nil))))))))))) rfl rfl rfl), (by omega)⟩
  ·
    replace hc := eql_f hc
    
    refine W_skip ?_
    refine rd_n (by rfl) ?_
    refine WL_nil ?_
    refine W_cond rfl (by decide) (fun _ => ?_) (fun hc => by cases hc)
    refine W_skip ?_
    refine W_blk ?_
    refine W_region ?_
    refine WL_cons hI1.fn (.plain rfl (oc_load hI1 (.tmp rfl) (by first | exact .p rfl | exact .rp) shp_22 (by first | exact unit_one rfl | exact unit_I (by first | omega | (simp; omega)) | exact unit_c rfl (by decide) | exact unit_c rfl (by simp)) rfl rfl)) ?_
    refine WL_cons hI1.fn (.plain rfl (oc_bin hI1 rfl (.tmp rfl) .cint (u32_wrap _) rfl rfl)) ?_
    refine WL_cons hI1.fn (.plain rfl (ox_store hI1 (.tmp rfl) (.tmp rfl) rfl shp_22 (by first | rfl | exact flat_agI) (by first | exact cells1 rfl | (rw [cells_ag, length_I]; omega) | rfl | (simp <;> fail) | (simp; omega)) (by first | exact Nat.le_refl _ | exact Nat.le_of_ble_eq_true rfl | decide | (simp <;> fail) | (simp; omega)) (by first | exact put_one rfl | exact put_blkI (by first | omega | (simp; omega)) | exact put_rowI (by first | omega | (simp; omega)) | rfl) (by first | exact .here | exact .there (.here) rfl | exact .there (.there (.here) rfl) rfl | exact .there (.there (.there (.here) rfl) rfl) rfl | exact .there (.there (.there (.there (.here) rfl) rfl) rfl) rfl | exact .there (.there (.there (.there (.there (.here) rfl) rfl) rfl) rfl) rfl | exact .there (.there (.there (.there (.there (.there (.here) rfl) rfl) rfl) rfl) rfl) rfl | exact .there (.there (.there (.there (.there (.there (.there (.here) rfl) rfl) rfl) rfl) rfl) rfl) rfl | exact .there (.there (.there (.there (.there (.there (.there (.there (.here) rfl) rfl) rfl) rfl) rfl) rfl) rfl) rfl | exact .there (.there (.there (.there (.there (.there (.there (.there (.there (.here) rfl) rfl) rfl) rfl) rfl) rfl) rfl) rfl) rfl) rfl)) ?_
    refine WL_nil ?_
    exact ⟨(i + 1), (by omega), (weakK (fun k => bif Nat.beq k 10 then 13 else k) (.cons rfl (by first | exact ren_agI | exact ren_vsI | exact ren_free _ _ (by first | exact inSL_I _ | simp)) (by first | exact inSL_I _ | simp) (.cons rfl (by first | rfl | simp) (by show _ < _; decide) (.cons rfl (by first | rfl | simp) (by show _ < _; decide) (.cons rfl (by first | rfl | simp) (by show _ < _; decide) (.cons rfl (by first | exact ren_agI | exact ren_vsI | exact ren_free _ _ (by first | exact inSL_I _ | simp)) (by first | exact inSL_I _ | simp) .nil))))) (.cons rfl (by first | exact ren_blkI | exact ren_rowI | exact Blk.ren_free (by simp) _ | rfl) rfl (by first | exact inSL_I _ | simp) (.cons rfl (by first | exact ren_blkI | exact ren_rowI | exact Blk.ren_free (by simp) _ | rfl) rfl (by first | exact inSL_I _ | simp) (.cons rfl rfl rfl (by first | exact inSL_I _ | simp) (.cons rfl rfl rfl (by first | exact inSL_I _ | simp) (.cons rfl (by first | exact ren_blkI | exact ren_rowI | exact Blk.ren_free (by simp) _ | rfl) rfl (by first | exact inSL_I _ | simp) (.cons rfl (by rw [← nn_succ]; rfl) rfl (by first | exact inSL_I _ | simp) (.cons rfl (by first | exact ren_blkI | exact ren_rowI | exact Blk.ren_free (by simp) _ | rfl) rfl (by first | exact inSL_I _ | simp) (.cons rfl (by first | exact ren_blkI | exact ren_rowI | exact Blk.ren_free (by simp) _ | rfl) rfl (by first | exact inSL_I _ | simp) (.cons rfl rfl rfl (by first | exact inSL_I _ | simp) (.cons rfl (by first | exact ren_blkI | exact ren_rowI | exact Blk.ren_free (by simp) _ | rfl) rfl (by first | exact inSL_I _ | simp) (.cons rfl (renRow rfl rfl) rfl (by first | exact inSL_I _ | simp) (.cons rfl (renRow (l' := []) rfl rfl) rfl (by first | exact inSL_I _ | simp) .nil)))))))))))) rfl rfl rfl), (by omega)⟩
end Go.Proofs.Ytpmakaccokidbaa
