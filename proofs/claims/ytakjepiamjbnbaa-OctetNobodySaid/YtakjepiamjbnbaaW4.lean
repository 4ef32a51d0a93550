/- Own work, printed by a program of this claim: walks through functions of the program. -/
import Derived.Test.YtakjepiamjbnbaaW3
import Derived.Test.YtakjepiamjbnbaaProg
import Derived.KernelRfl
set_option linter.unusedSimpArgs false
set_option linter.unusedVariables false
namespace Go.Proofs.Ytakjepiamjbnbaa
open Go.Sk Go.RowKit
attribute [local simp] AV.inSL AV.inS inSL_I Blk.inS Blk.cs AV.novs AV.novsL novsL_I AV.ren AV.cells AV.one lk tuAV
theorem fld_47_0 : fld Try.prog 47 0 = some (0, false, 1) := by kernel_rfl
theorem fld_47_1 : fld Try.prog 47 1 = some (1, false, 1) := by kernel_rfl
theorem idx_43 : idx Try.prog 43 = some (none, 2) := by kernel_rfl
theorem idx_57 : idx Try.prog 57 = some (none, 1) := by kernel_rfl
theorem shp_47 : shp Try.prog 47 = some (true, 2) := by kernel_rfl
theorem zero_47 : zeroAV Try.prog 47 = some [.i .i64 0, .i .i64 0] := by kernel_rfl

set_option maxRecDepth 20000 in
set_option maxHeartbeats 4000000 in
theorem nob1_c  : FnC Try.prog 31 [] [.nilp] [] [] (.i .i64 1) := by
  refine FnC.introR (N0 := 0) (T := 3) (E := [(0, .nilp)]) Try.func31 rfl (by decide) mix rfl rfl rfl (by simp) rfl ⟨(by first | exact inSL_I _ | trivial | simp), trivial⟩ (by simp) (by intro S _ _ h; simp) (fun F n0 X w ρ hC hro => ?_)
  refine W_seq ?_
  refine W_region ?_
  refine WL_cons hC.fn (.plain rfl (oc_assign hC .cint rfl rfl)) ?_
  refine WL_nil ?_
  refine W_seq ?_
  refine W_region ?_
  refine WL_cons hC.fn (.plain rfl (oc_assign hC .cint rfl rfl)) ?_
  refine WL_nil ?_
  refine W_ret ?_
  exact fin0 (.cons (.tmp rfl) .nil) (by first | rfl | (simp <;> fail)) (by first | exact inSL_I _ | simp)
set_option maxRecDepth 20000 in
set_option maxHeartbeats 4000000 in
theorem law_OctetNobody (n : Int) : FnC Try.prog 9 [] [.i .i64 n] [] [] (.b true) := by
  refine FnC.introR (N0 := 0) (T := 50) (E := [(0, .i .i64 n)]) Try.func9 rfl (by decide) mix rfl rfl rfl (by simp) rfl ⟨(by first | exact inSL_I _ | trivial | simp), trivial⟩ (by simp) (by intro S _ _ h; simp) (fun F n0 X w ρ hC hro => ?_)
  refine W_seq ?_
  refine W_region ?_
  refine WL_cons hC.fn (.plain rfl (oc_assign hC .cbool rfl rfl)) ?_
  refine WL_nil ?_
  refine W_seq ?_
  refine W_region ?_
  refine WL_cons hC.fn (.plain rfl (oc_assign hC .cnilp rfl rfl)) ?_
  refine WL_nil ?_
  refine W_seq ?_
  refine W_region ?_
  refine WL_cons hC.fn (.plain rfl (oc_move hC (.tmp rfl) rfl rfl)) ?_
  refine WL_cons hC.fn (.plain rfl (oc_call hC (.cons (.tmp rfl) (.cons .cint .nil)) (.cons1 (.free (by first | exact inSL_I _ | simp)) (.cons1 (.free (by first | exact inSL_I _ | simp)) (.same (by first | exact inSL_I _ | simp)))) (failnil_c 4) glob_nil (by first | exact inSL_I _ | simp) (by first | exact .inl rfl | exact .inr (by simp)) rfl rfl)) ?_
  refine WL_nil ?_
  refine W_seq ?_
  refine W_region ?_
  refine WL_cons hC.fn (.plain rfl (oc_move hC (.tmp rfl) rfl rfl)) ?_
  refine WL_cons hC.fn (.plain rfl (oc_move hC (.tmp rfl) rfl rfl)) ?_
  refine WL_cons hC.fn (.plain rfl (oc_call hC (.cons (.tmp rfl) (.cons (.tmp rfl) (.cons .func .nil))) (.cons1 (.free (by first | exact inSL_I _ | simp)) (.cons1 (.free (by first | exact inSL_I _ | simp)) (.cons1 (.free (by first | exact inSL_I _ | simp)) (.same (by first | exact inSL_I _ | simp))))) (listnil_c _ 31) glob_nil (by first | exact inSL_I _ | simp) (by first | exact .inl rfl | exact .inr (by simp)) rfl rfl)) ?_
  refine WL_cons hC.fn (.plain rfl (oc_assign hC (.tmp rfl) rfl rfl)) ?_
  refine WL_nil ?_
  refine W_seq ?_
  rcases (show (n < 0 ∨ (0 ≤ n ∧ 8 < n)) ∨ (0 ≤ n ∧ n ≤ 8) by omega) with h | h
  ·
    refine W_region ?_
    refine WL_cons hC.fn (.plain rfl (oc_move hC (.tmp rfl) rfl rfl)) ?_
    refine WL_cons hC.fn (.plain rfl (oc_move hC (.tmp rfl) rfl rfl)) ?_
    refine WL_cons hC.fn (.plain rfl (oc_call hC (.cons (.tmp rfl) (.cons (.tmp rfl) .nil)) (.cons1 (.free (by first | exact inSL_I _ | simp)) (.cons1 (.free (by first | exact inSL_I _ | simp)) (.same (by first | exact inSL_I _ | simp)))) (numnil_c _) glob_nil (by first | exact inSL_I _ | simp) (by first | exact .inl rfl | exact .inr (by simp)) rfl rfl)) ?_
    refine WL_cons hC.fn (.plain rfl (ox_cmp hC rfl (.tmp rfl) .cint (r := true) rfl rfl rfl)) ?_
    refine WL_cons hC.fn (.plain rfl (oc_move hC (.tmp rfl) rfl rfl)) ?_
    refine WL_cons hC.fn (.yes rfl rfl (by decide) rfl (oc_move hC (.tmp rfl) rfl rfl)) ?_
    refine WL_cons hC.fn (.yes rfl rfl (by decide) rfl (oc_move hC (.tmp rfl) rfl rfl)) ?_
    refine WL_cons hC.fn (.yes rfl rfl (by decide) rfl (oc_call hC (.cons (.tmp rfl) (.cons (.tmp rfl) .nil)) (.cons1 (.free (by first | exact inSL_I _ | simp)) (.cons1 (.free (by first | exact inSL_I _ | simp)) (.same (by first | exact inSL_I _ | simp)))) (bytesrnil_c _) glob_nil (by first | exact inSL_I _ | simp) (by first | exact .inl rfl | exact .inr (by simp)) rfl rfl)) ?_
    refine WL_cons hC.fn (.yes rfl rfl (by decide) rfl (ox_len hC (.tmp rfl) (by first | exact .row rfl | exact .vs | exact .sl rfl | exact .nils) Try.underlying22 rfl rfl rfl)) ?_
    refine WL_cons hC.fn (.yes rfl rfl (by decide) rfl (ox_cmp hC rfl (.tmp rfl) .cint (r := true) rfl rfl rfl)) ?_
    refine WL_cons hC.fn (.plain rfl (ox_pick hC (.tmp rfl) (.tmp rfl) .cbool (by first | exact pick_t | exact pick_f | rfl) rfl rfl)) ?_
    refine WL_cons hC.fn (.plain rfl (oc_move hC (.tmp rfl) rfl rfl)) ?_
    refine WL_cons hC.fn (.yes rfl rfl (by decide) rfl (oc_move hC (.tmp rfl) rfl rfl)) ?_
    refine WL_cons hC.fn (.yes rfl rfl (by decide) rfl (oc_move hC (.tmp rfl) rfl rfl)) ?_
    refine WL_cons hC.fn (.yes rfl rfl (by decide) rfl (oc_call hC (.cons (.tmp rfl) (.cons (.tmp rfl) .nil)) (.cons1 (.free (by first | exact inSL_I _ | simp)) (.cons1 (.free (by first | exact inSL_I _ | simp)) (.same (by first | exact inSL_I _ | simp)))) (fixrangenil_c n h) glob_nil (by first | exact inSL_I _ | simp) (by first | exact .inl rfl | exact .inr (by simp)) rfl rfl)) ?_
    refine WL_cons hC.fn (.yes rfl rfl (by decide) rfl (ox_cmp hC rfl (.tmp rfl) .cint (r := true) rfl rfl rfl)) ?_
    refine WL_cons hC.fn (.plain rfl (ox_pick hC (.tmp rfl) (.tmp rfl) .cbool (by first | exact pick_t | exact pick_f | rfl) rfl rfl)) ?_
    refine WL_cons hC.fn (.plain rfl (oc_move hC (.tmp rfl) rfl rfl)) ?_
    refine WL_cons hC.fn (.yes rfl rfl (by decide) rfl (oc_move hC (.tmp rfl) rfl rfl)) ?_
    refine WL_cons hC.fn (.yes rfl rfl (by decide) rfl (oc_call hC (.cons (.tmp rfl) .nil) (.cons1 (.free (by first | exact inSL_I _ | simp)) (.same (by first | exact inSL_I _ | simp))) (errnil_c) glob_nil (by first | exact inSL_I _ | simp) (by first | exact .inl rfl | exact .inr (by simp)) rfl rfl)) ?_
    refine WL_cons hC.fn (.yes rfl rfl (by decide) rfl (ox_cmp hC rfl (.tmp rfl) .cint (r := true) rfl rfl rfl)) ?_
    refine WL_cons hC.fn (.plain rfl (ox_pick hC (.tmp rfl) (.tmp rfl) .cbool (by first | exact pick_t | exact pick_f | rfl) rfl rfl)) ?_
    refine WL_cons hC.fn (.plain rfl (oc_move hC (.tmp rfl) rfl rfl)) ?_
    refine WL_cons hC.fn (.yes rfl rfl (by decide) rfl (oc_move hC (.tmp rfl) rfl rfl)) ?_
    refine WL_cons hC.fn (.yes rfl rfl (by decide) rfl (oc_call hC (.cons (.tmp rfl) .nil) (.cons1 (.free (by first | exact inSL_I _ | simp)) (.same (by first | exact inSL_I _ | simp))) (endnil_c) glob_nil (by first | exact inSL_I _ | simp) (by first | exact .inl rfl | exact .inr (by simp)) rfl rfl)) ?_
    refine WL_cons hC.fn (.yes rfl rfl (by decide) rfl (ox_cmp hC rfl (.tmp rfl) .cint (r := true) rfl rfl rfl)) ?_
    refine WL_cons hC.fn (.plain rfl (ox_pick hC (.tmp rfl) (.tmp rfl) .cbool (by first | exact pick_t | exact pick_f | rfl) rfl rfl)) ?_
    refine WL_cons hC.fn (.plain rfl (oc_move hC (.tmp rfl) rfl rfl)) ?_
    refine WL_cons hC.fn (.yes rfl rfl (by decide) rfl (oc_move hC (.tmp rfl) rfl rfl)) ?_
    refine WL_cons hC.fn (.yes rfl rfl (by decide) rfl (oc_call hC (.cons (.tmp rfl) .nil) (.cons1 (.free (by first | exact inSL_I _ | simp)) (.same (by first | exact inSL_I _ | simp))) (leftnil_c) glob_nil (by first | exact inSL_I _ | simp) (by first | exact .inl rfl | exact .inr (by simp)) rfl rfl)) ?_
    refine WL_cons hC.fn (.yes rfl rfl (by decide) rfl (ox_cmp hC rfl (.tmp rfl) .cint (r := true) rfl rfl rfl)) ?_
    refine WL_cons hC.fn (.plain rfl (ox_pick hC (.tmp rfl) (.tmp rfl) .cbool (by first | exact pick_t | exact pick_f | rfl) rfl rfl)) ?_
    refine WL_cons hC.fn (.plain rfl (oc_move hC (.tmp rfl) rfl rfl)) ?_
    refine WL_cons hC.fn (.yes rfl rfl (by decide) rfl (oc_move hC (.tmp rfl) rfl rfl)) ?_
    refine WL_cons hC.fn (.yes rfl rfl (by decide) rfl (ox_len hC (.tmp rfl) (by first | exact .row rfl | exact .vs | exact .sl rfl | exact .nils) Try.underlying57 rfl rfl rfl)) ?_
    refine WL_cons hC.fn (.yes rfl rfl (by decide) rfl (ox_cmp hC rfl (.tmp rfl) .cint (r := true) rfl rfl rfl)) ?_
    refine WL_cons hC.fn (.plain rfl (ox_pick hC (.tmp rfl) (.tmp rfl) .cbool (by first | exact pick_t | exact pick_f | rfl) rfl rfl)) ?_
    refine WL_cons hC.fn (.plain rfl (oc_move hC (.tmp rfl) rfl rfl)) ?_
    refine WL_cons hC.fn (.yes rfl rfl (by decide) rfl (oc_call hC .nil (.same (by first | exact inSL_I _ | simp)) (awake01_c) glob_nil (by first | exact inSL_I _ | simp) (by first | exact .inl rfl | exact .inr (by simp)) rfl rfl)) ?_
    refine WL_cons hC.fn (.plain rfl (ox_pick hC (.tmp rfl) (.tmp rfl) .cbool (by first | exact pick_t | exact pick_f | rfl) rfl rfl)) ?_
    refine WL_cons hC.fn (.plain rfl (oc_assign hC (.tmp rfl) rfl rfl)) ?_
    refine WL_nil ?_
    refine W_ret ?_
    exact fin0 (.cons (.tmp rfl) .nil) rfl trivial
  ·
    obtain ⟨wd, rfl⟩ := Int.eq_ofNat_of_zero_le h.1
    refine W_region ?_
    refine WL_cons hC.fn (.plain rfl (oc_move hC (.tmp rfl) rfl rfl)) ?_
    refine WL_cons hC.fn (.plain rfl (oc_move hC (.tmp rfl) rfl rfl)) ?_
    refine WL_cons hC.fn (.plain rfl (oc_call hC (.cons (.tmp rfl) (.cons (.tmp rfl) .nil)) (.cons1 (.free (by first | exact inSL_I _ | simp)) (.cons1 (.free (by first | exact inSL_I _ | simp)) (.same (by first | exact inSL_I _ | simp)))) (numnil_c _) glob_nil (by first | exact inSL_I _ | simp) (by first | exact .inl rfl | exact .inr (by simp)) rfl rfl)) ?_
    refine WL_cons hC.fn (.plain rfl (ox_cmp hC rfl (.tmp rfl) .cint (r := true) rfl rfl rfl)) ?_
    refine WL_cons hC.fn (.plain rfl (oc_move hC (.tmp rfl) rfl rfl)) ?_
    refine WL_cons hC.fn (.yes rfl rfl (by decide) rfl (oc_move hC (.tmp rfl) rfl rfl)) ?_
    refine WL_cons hC.fn (.yes rfl rfl (by decide) rfl (oc_move hC (.tmp rfl) rfl rfl)) ?_
    refine WL_cons hC.fn (.yes rfl rfl (by decide) rfl (oc_call hC (.cons (.tmp rfl) (.cons (.tmp rfl) .nil)) (.cons1 (.free (by first | exact inSL_I _ | simp)) (.cons1 (.free (by first | exact inSL_I _ | simp)) (.same (by first | exact inSL_I _ | simp)))) (bytesrnil_c _) glob_nil (by first | exact inSL_I _ | simp) (by first | exact .inl rfl | exact .inr (by simp)) rfl rfl)) ?_
    refine WL_cons hC.fn (.yes rfl rfl (by decide) rfl (ox_len hC (.tmp rfl) (by first | exact .row rfl | exact .vs | exact .sl rfl | exact .nils) Try.underlying22 rfl rfl rfl)) ?_
    refine WL_cons hC.fn (.yes rfl rfl (by decide) rfl (ox_cmp hC rfl (.tmp rfl) .cint (r := true) rfl rfl rfl)) ?_
    refine WL_cons hC.fn (.plain rfl (ox_pick hC (.tmp rfl) (.tmp rfl) .cbool (by first | exact pick_t | exact pick_f | rfl) rfl rfl)) ?_
    refine WL_cons hC.fn (.plain rfl (oc_move hC (.tmp rfl) rfl rfl)) ?_
    refine WL_cons hC.fn (.yes rfl rfl (by decide) rfl (oc_move hC (.tmp rfl) rfl rfl)) ?_
    refine WL_cons hC.fn (.yes rfl rfl (by decide) rfl (oc_move hC (.tmp rfl) rfl rfl)) ?_
    refine WL_cons hC.fn (.yes rfl rfl (by decide) rfl (oc_call hC (.cons (.tmp rfl) (.cons (.tmp rfl) .nil)) (.cons1 (.free (by first | exact inSL_I _ | simp)) (.cons1 (.free (by first | exact inSL_I _ | simp)) (.same (by first | exact inSL_I _ | simp)))) (fixrnil_c wd (by omega)) glob_nil (by first | exact inSL_I _ | simp) (by first | exact .inl rfl | exact .inr (by simp)) rfl rfl)) ?_
    rw [vle_nil]
    refine WL_cons hC.fn (.yes rfl rfl (by decide) rfl (ox_cmp hC rfl (.tmp rfl) .cint (r := true) rfl rfl rfl)) ?_
    refine WL_cons hC.fn (.plain rfl (ox_pick hC (.tmp rfl) (.tmp rfl) .cbool (by first | exact pick_t | exact pick_f | rfl) rfl rfl)) ?_
    refine WL_cons hC.fn (.plain rfl (oc_move hC (.tmp rfl) rfl rfl)) ?_
    refine WL_cons hC.fn (.yes rfl rfl (by decide) rfl (oc_move hC (.tmp rfl) rfl rfl)) ?_
    refine WL_cons hC.fn (.yes rfl rfl (by decide) rfl (oc_call hC (.cons (.tmp rfl) .nil) (.cons1 (.free (by first | exact inSL_I _ | simp)) (.same (by first | exact inSL_I _ | simp))) (errnil_c) glob_nil (by first | exact inSL_I _ | simp) (by first | exact .inl rfl | exact .inr (by simp)) rfl rfl)) ?_
    refine WL_cons hC.fn (.yes rfl rfl (by decide) rfl (ox_cmp hC rfl (.tmp rfl) .cint (r := true) rfl rfl rfl)) ?_
    refine WL_cons hC.fn (.plain rfl (ox_pick hC (.tmp rfl) (.tmp rfl) .cbool (by first | exact pick_t | exact pick_f | rfl) rfl rfl)) ?_
    refine WL_cons hC.fn (.plain rfl (oc_move hC (.tmp rfl) rfl rfl)) ?_
    refine WL_cons hC.fn (.yes rfl rfl (by decide) rfl (oc_move hC (.tmp rfl) rfl rfl)) ?_
    refine WL_cons hC.fn (.yes rfl rfl (by decide) rfl (oc_call hC (.cons (.tmp rfl) .nil) (.cons1 (.free (by first | exact inSL_I _ | simp)) (.same (by first | exact inSL_I _ | simp))) (endnil_c) glob_nil (by first | exact inSL_I _ | simp) (by first | exact .inl rfl | exact .inr (by simp)) rfl rfl)) ?_
    refine WL_cons hC.fn (.yes rfl rfl (by decide) rfl (ox_cmp hC rfl (.tmp rfl) .cint (r := true) rfl rfl rfl)) ?_
    refine WL_cons hC.fn (.plain rfl (ox_pick hC (.tmp rfl) (.tmp rfl) .cbool (by first | exact pick_t | exact pick_f | rfl) rfl rfl)) ?_
    refine WL_cons hC.fn (.plain rfl (oc_move hC (.tmp rfl) rfl rfl)) ?_
    refine WL_cons hC.fn (.yes rfl rfl (by decide) rfl (oc_move hC (.tmp rfl) rfl rfl)) ?_
    refine WL_cons hC.fn (.yes rfl rfl (by decide) rfl (oc_call hC (.cons (.tmp rfl) .nil) (.cons1 (.free (by first | exact inSL_I _ | simp)) (.same (by first | exact inSL_I _ | simp))) (leftnil_c) glob_nil (by first | exact inSL_I _ | simp) (by first | exact .inl rfl | exact .inr (by simp)) rfl rfl)) ?_
    refine WL_cons hC.fn (.yes rfl rfl (by decide) rfl (ox_cmp hC rfl (.tmp rfl) .cint (r := true) rfl rfl rfl)) ?_
    refine WL_cons hC.fn (.plain rfl (ox_pick hC (.tmp rfl) (.tmp rfl) .cbool (by first | exact pick_t | exact pick_f | rfl) rfl rfl)) ?_
    refine WL_cons hC.fn (.plain rfl (oc_move hC (.tmp rfl) rfl rfl)) ?_
    refine WL_cons hC.fn (.yes rfl rfl (by decide) rfl (oc_move hC (.tmp rfl) rfl rfl)) ?_
    refine WL_cons hC.fn (.yes rfl rfl (by decide) rfl (ox_len hC (.tmp rfl) (by first | exact .row rfl | exact .vs | exact .sl rfl | exact .nils) Try.underlying57 rfl rfl rfl)) ?_
    refine WL_cons hC.fn (.yes rfl rfl (by decide) rfl (ox_cmp hC rfl (.tmp rfl) .cint (r := true) rfl rfl rfl)) ?_
    refine WL_cons hC.fn (.plain rfl (ox_pick hC (.tmp rfl) (.tmp rfl) .cbool (by first | exact pick_t | exact pick_f | rfl) rfl rfl)) ?_
    refine WL_cons hC.fn (.plain rfl (oc_move hC (.tmp rfl) rfl rfl)) ?_
    refine WL_cons hC.fn (.yes rfl rfl (by decide) rfl (oc_call hC .nil (.same (by first | exact inSL_I _ | simp)) (awake01_c) glob_nil (by first | exact inSL_I _ | simp) (by first | exact .inl rfl | exact .inr (by simp)) rfl rfl)) ?_
    refine WL_cons hC.fn (.plain rfl (ox_pick hC (.tmp rfl) (.tmp rfl) .cbool (by first | exact pick_t | exact pick_f | rfl) rfl rfl)) ?_
    refine WL_cons hC.fn (.plain rfl (oc_assign hC (.tmp rfl) rfl rfl)) ?_
    refine WL_nil ?_
    refine W_ret ?_
    exact fin0 (.cons (.tmp rfl) .nil) rfl trivial
set_option maxRecDepth 20000 in
set_option maxHeartbeats 4000000 in
theorem law_OctetWidths (n : Int) : FnC Try.prog 5 [] [.i .i64 n] [] [] (.b true) := by
  refine FnC.introR (N0 := 0) (T := 32) (E := [(0, .i .i64 n)]) Try.func5 rfl (by decide) mix rfl rfl rfl (by simp) rfl ⟨(by first | exact inSL_I _ | trivial | simp), trivial⟩ (by simp) (by intro S _ _ h; simp) (fun F n0 X w ρ hC hro => ?_)
  refine W_seq ?_
  refine W_region ?_
  refine WL_cons hC.fn (.plain rfl (oc_assign hC .cbool rfl rfl)) ?_
  refine WL_nil ?_
  refine W_seq ?_
  refine W_seq ?_
  rcases (show n < 0 ∨ (0 ≤ n ∧ 1099511627775 < n) ∨ (0 ≤ n ∧ n ≤ 1099511627775) by omega) with h | h | h
  ·
    refine W_region ?_
    refine WL_cons hC.fn (.plain rfl (oc_move hC (.tmp rfl) rfl rfl)) ?_
    refine WL_cons hC.fn (.plain rfl (ox_cmp hC rfl (.tmp rfl) .cint (r := true) (by simp only [cmpI]; exact decide_eq_true (by omega)) rfl rfl)) ?_
    refine WL_cons hC.fn (.plain rfl (oc_move hC (.tmp rfl) rfl rfl)) ?_
    refine WL_cons hC.fn (.no (s1 := ⟨_, (8, .tu []) :: _, _⟩) rfl rfl (by decide) rfl (by decide) (fun t ht => by cases ht; exact ⟨blt_lt rfl, blt_lt rfl⟩) (fun t => setE_cons _ _ _ _) rfl rfl) ?_
    refine WL_cons hC.fn (.no (s1 := ⟨_, (9, .tu []) :: _, _⟩) rfl rfl (by decide) rfl (by decide) (fun t ht => by cases ht; exact ⟨blt_lt rfl, blt_lt rfl⟩) (fun t => setE_cons _ _ _ _) rfl rfl) ?_
    refine WL_cons hC.fn (.plain rfl (ox_pick hC (.tmp rfl) .cbool (.tmp rfl) (by first | exact pick_t | exact pick_f | rfl) rfl rfl)) ?_
    refine WL_nil ?_
    refine W_cond rfl (by decide) (fun _ => ?_) (fun hc => by cases hc)
    refine W_seq ?_
    refine W_region ?_
    refine WL_cons hC.fn (.plain rfl (oc_call hC .nil (.same (by first | exact inSL_I _ | simp)) (awake01_c) glob_nil (by first | exact inSL_I _ | simp) (by first | exact .inl rfl | exact .inr (by simp)) rfl rfl)) ?_
    refine WL_cons hC.fn (.plain rfl (oc_assign hC (.tmp rfl) rfl rfl)) ?_
    refine WL_nil ?_
    refine W_ret ?_
    exact fin0 (.cons (.tmp rfl) .nil) rfl trivial
  ·
    refine W_region ?_
    refine WL_cons hC.fn (.plain rfl (oc_move hC (.tmp rfl) rfl rfl)) ?_
    refine WL_cons hC.fn (.plain rfl (ox_cmp hC rfl (.tmp rfl) .cint (r := false) (by simp only [cmpI]; exact decide_eq_false (by omega)) rfl rfl)) ?_
    refine WL_cons hC.fn (.plain rfl (oc_move hC (.tmp rfl) rfl rfl)) ?_
    refine WL_cons hC.fn (.yes rfl rfl (by decide) rfl (oc_move hC (.tmp rfl) rfl rfl)) ?_
    refine WL_cons hC.fn (.yes rfl rfl (by decide) rfl (ox_cmp hC rfl (.tmp rfl) .cint (r := true) (by simp only [cmpI]; exact decide_eq_true (by omega)) rfl rfl)) ?_
    refine WL_cons hC.fn (.plain rfl (ox_pick hC (.tmp rfl) .cbool (.tmp rfl) (by first | exact pick_t | exact pick_f | rfl) rfl rfl)) ?_
    refine WL_nil ?_
    refine W_cond rfl (by decide) (fun _ => ?_) (fun hc => by cases hc)
    refine W_seq ?_
    refine W_region ?_
    refine WL_cons hC.fn (.plain rfl (oc_call hC .nil (.same (by first | exact inSL_I _ | simp)) (awake01_c) glob_nil (by first | exact inSL_I _ | simp) (by first | exact .inl rfl | exact .inr (by simp)) rfl rfl)) ?_
    refine WL_cons hC.fn (.plain rfl (oc_assign hC (.tmp rfl) rfl rfl)) ?_
    refine WL_nil ?_
    refine W_ret ?_
    exact fin0 (.cons (.tmp rfl) .nil) rfl trivial
  ·
    obtain ⟨nC, rfl⟩ := Int.eq_ofNat_of_zero_le h.1
    have hlp := length_putV (n := nC) (by omega)
    refine W_region ?_
    refine WL_cons hC.fn (.plain rfl (oc_move hC (.tmp rfl) rfl rfl)) ?_
    refine WL_cons hC.fn (.plain rfl (ox_cmp hC rfl (.tmp rfl) .cint (r := false) (by simp only [cmpI]; exact decide_eq_false (by omega)) rfl rfl)) ?_
    refine WL_cons hC.fn (.plain rfl (oc_move hC (.tmp rfl) rfl rfl)) ?_
    refine WL_cons hC.fn (.yes rfl rfl (by decide) rfl (oc_move hC (.tmp rfl) rfl rfl)) ?_
    refine WL_cons hC.fn (.yes rfl rfl (by decide) rfl (ox_cmp hC rfl (.tmp rfl) .cint (r := false) (by simp only [cmpI]; exact decide_eq_false (by omega)) rfl rfl)) ?_
    refine WL_cons hC.fn (.plain rfl (ox_pick hC (.tmp rfl) .cbool (.tmp rfl) (by first | exact pick_t | exact pick_f | rfl) rfl rfl)) ?_
    refine WL_nil ?_
    refine W_cond rfl (by decide) (fun hc => by cases hc) (fun _ => ?_)
    refine W_skip ?_
    refine W_seq ?_
    refine W_region ?_
    refine WL_cons hC.fn (.plain rfl (oc_assign hC .cint rfl rfl)) ?_
    refine WL_nil ?_
    refine W_seq ?_
    refine W_seq ?_
    refine W_region ?_
    refine WL_cons hC.fn (.plain rfl (oc_move hC (.tmp rfl) rfl rfl)) ?_
    refine WL_cons hC.fn (.plain rfl (oc_shift hC (.inr rfl) (.tmp rfl) .cint (by first | decide | omega) (r := ((nC / 128 : Nat) : Int)) (shr7 _) rfl rfl)) ?_
    refine WL_cons hC.fn (.plain rfl (oc_assign hC (.tmp rfl) rfl rfl)) ?_
    refine WL_nil ?_
    refine W_blk ?_
    refine W_loopW (fun (ζ : Nat × Nat × Nat) => ⟨0, [(0, .i .i64 nC), (3, .i .i64 ζ.1), (4, .i .i64 ((ζ.2.2 / 128 : Nat) : Int))], []⟩) (fun ζ => PutW nC ζ.1 ζ.2.1 ζ.2.2) (fun ζ => ζ.2.2) (1, 6, nC) (PutW.zero (by omega)) (weak (fun k => k) (.cons rfl (by first | rfl | exact congrArg (AV.i _) (by omega) | exact congrArg (AV.i _) (by simp; omega)) trivial (.cons rfl rfl trivial (.cons rfl (by first | rfl | exact congrArg (AV.i _) (by omega) | exact congrArg (AV.i _) (by simp; omega)) trivial .nil))) .nil rfl rfl rfl) ?_
    rintro ⟨want, f, cur⟩ hR
    replace hR : PutW nC want f cur := hR
    first | show W _ _ _ ⟨0, [(0, .i .i64 nC), (3, .i .i64 want), (4, .i .i64 ((cur / 128 : Nat) : Int))], []⟩ | skip
    refine W_seq ?_
    refine W_seq ?_
    refine W_region ?_
    refine WL_cons hC.fn (.plain rfl (oc_move hC (.tmp rfl) rfl rfl)) ?_
    refine WL_cons hC.fn (.plain rfl (ox_cmp hC rfl (.tmp rfl) .cint rfl rfl rfl)) ?_
    refine WL_nil ?_
    refine W_cond rfl (by decide) (fun hc => ?_) (fun hc => ?_)
    ·
      replace hc := gtr_t hc
      
      refine W_skip ?_
      refine W_seq ?_
      refine W_blk ?_
      refine W_region ?_
      refine WL_cons hC.fn (.plain rfl (oc_move hC (.tmp rfl) rfl rfl)) ?_
      refine WL_cons hC.fn (.plain rfl (oc_bin hC rfl (.tmp rfl) .cint (r := ((want + 1 : Nat) : Int)) (nadd (y := 1) (by have := hR.le; omega)) rfl rfl)) ?_
      refine WL_cons hC.fn (.plain rfl (oc_assign hC (.tmp rfl) rfl rfl)) ?_
      refine WL_nil ?_
      refine W_region ?_
      refine WL_cons hC.fn (.plain rfl (oc_move hC (.tmp rfl) rfl rfl)) ?_
      refine WL_cons hC.fn (.plain rfl (oc_shift hC (.inr rfl) (.tmp rfl) .cint (by first | decide | omega) (r := ((cur / 128 / 128 : Nat) : Int)) (shr7 _) rfl rfl)) ?_
      refine WL_cons hC.fn (.plain rfl (oc_assign hC (.tmp rfl) rfl rfl)) ?_
      refine WL_nil ?_
      exact ⟨(want + 1, f - 1, cur / 128), (hR.succ (by omega)), (weak (fun k => k) (.cons rfl (by first | rfl | exact congrArg (AV.i _) (by omega) | exact congrArg (AV.i _) (by simp; omega)) trivial (.cons rfl (by first | rfl | exact congrArg (AV.i _) (by omega) | exact congrArg (AV.i _) (by simp; omega)) trivial (.cons rfl (by first | rfl | exact congrArg (AV.i _) (by omega) | exact congrArg (AV.i _) (by simp; omega)) trivial .nil))) .nil rfl rfl rfl), (by show cur / 128 < cur; omega)⟩
    ·
      replace hc := gtr_f hc
      have hE := hR.end (by omega)
      refine W_exit ?_
      refine W_seq ?_
      refine W_region ?_
      refine WL_cons hC.fn (.plain rfl (oc_move hC (.tmp rfl) rfl rfl)) ?_
      refine WL_cons hC.fn (.plain rfl (oc_callN hC (.cons .cnils (.cons (.tmp rfl) .nil)) (.cons1 (by first | exact .free (by first | exact inSL_I _ | simp) | exact .row rfl rfl (by first | exact inSL_I _ | simp) | exact .nils | exact .sl1 rfl (by first | exact cut_I | rfl) (by first | exact inSL_I _ | simp)) (.cons1 (.free (by first | exact inSL_I _ | simp)) (.same (by first | exact inSL_I _ | simp)))) (putn_c nC nC (.inl ⟨rfl, by omega⟩)) glob_nil (by first | exact inSL_I _ | simp) rfl (by first | exact .inl rfl | exact .inr ⟨by simp, novsL_I _⟩ | exact .inr ⟨by simp, by simp⟩) rfl rfl)) ?_
      refine WL_cons hC.fn (.plain rfl (ox_len hC (.tmp rfl) (by first | exact .row rfl | exact .vs | exact .sl rfl | exact .nils) Try.underlying22 (r := ((putV nC).length : Int)) rfl rfl rfl)) ?_
      refine WL_cons hC.fn (.plain rfl (oc_move hC (.tmp rfl) rfl rfl)) ?_
      refine WL_cons hC.fn (.plain rfl (ox_cmp hC rfl (.tmp rfl) (.tmp rfl) (r := true) (by simp only [cmpI]; exact decide_eq_true (by omega)) rfl rfl)) ?_
      refine WL_cons hC.fn (.plain rfl (oc_move hC (.tmp rfl) rfl rfl)) ?_
      refine WL_cons hC.fn (.yes rfl rfl (by decide) rfl (oc_move hC (.tmp rfl) rfl rfl)) ?_
      refine WL_cons hC.fn (.yes rfl rfl (by decide) rfl (ox_cmp hC rfl (.tmp rfl) .cint (r := true) (by simp only [cmpI]; exact decide_eq_true (by omega)) rfl rfl)) ?_
      refine WL_cons hC.fn (.plain rfl (ox_pick hC (.tmp rfl) (.tmp rfl) .cbool (by first | exact pick_t | exact pick_f | rfl) rfl rfl)) ?_
      refine WL_cons hC.fn (.plain rfl (oc_move hC (.tmp rfl) rfl rfl)) ?_
      refine WL_cons hC.fn (.yes rfl rfl (by decide) rfl (oc_call hC .nil (.same (by first | exact inSL_I _ | simp)) (awake01_c) glob_nil (by first | exact inSL_I _ | simp) (by first | exact .inl rfl | exact .inr (by simp)) rfl rfl)) ?_
      refine WL_cons hC.fn (.plain rfl (ox_pick hC (.tmp rfl) (.tmp rfl) .cbool (by first | exact pick_t | exact pick_f | rfl) rfl rfl)) ?_
      refine WL_cons hC.fn (.plain rfl (oc_assign hC (.tmp rfl) rfl rfl)) ?_
      refine WL_nil ?_
      refine W_ret ?_
      exact fin0 (.cons (.tmp rfl) .nil) rfl trivial
set_option maxRecDepth 20000 in
set_option maxHeartbeats 4000000 in
theorem law_OctetFixes (m : Nat) (hm : m < 18446744073709551616) (width : Int) : FnC Try.prog 4 [] [.i .u64 m, .i .i64 width] [] [] (.b true) := by
  refine FnC.introR (N0 := 0) (T := 48) (E := [(0, .i .u64 m), (1, .i .i64 width)]) Try.func4 rfl (by decide) mix rfl rfl rfl (by simp) rfl ⟨(by first | exact inSL_I _ | trivial | simp), (by first | exact inSL_I _ | trivial | simp), trivial⟩ (by simp) (by intro S _ _ h; simp) (fun F n0 X w ρ hC hro => ?_)
  refine W_seq ?_
  refine W_region ?_
  refine WL_cons hC.fn (.plain rfl (oc_assign hC .cbool rfl rfl)) ?_
  refine WL_nil ?_
  refine W_seq ?_
  refine W_seq ?_
  rcases (show width < 0 ∨ (0 ≤ width ∧ 8 < width) ∨ (0 ≤ width ∧ width ≤ 8) by omega) with h | h | h
  ·
    refine W_region ?_
    refine WL_cons hC.fn (.plain rfl (oc_move hC (.tmp rfl) rfl rfl)) ?_
    refine WL_cons hC.fn (.plain rfl (ox_cmp hC rfl (.tmp rfl) .cint (r := true) (by simp only [cmpI]; exact decide_eq_true (by omega)) rfl rfl)) ?_
    refine WL_cons hC.fn (.plain rfl (oc_move hC (.tmp rfl) rfl rfl)) ?_
    refine WL_cons hC.fn (.no (s1 := ⟨_, (11, .tu []) :: _, _⟩) rfl rfl (by decide) rfl (by decide) (fun t ht => by cases ht; exact ⟨blt_lt rfl, blt_lt rfl⟩) (fun t => setE_cons _ _ _ _) rfl rfl) ?_
    refine WL_cons hC.fn (.no (s1 := ⟨_, (12, .tu []) :: _, _⟩) rfl rfl (by decide) rfl (by decide) (fun t ht => by cases ht; exact ⟨blt_lt rfl, blt_lt rfl⟩) (fun t => setE_cons _ _ _ _) rfl rfl) ?_
    refine WL_cons hC.fn (.plain rfl (ox_pick hC (.tmp rfl) .cbool (.tmp rfl) (by first | exact pick_t | exact pick_f | rfl) rfl rfl)) ?_
    refine WL_nil ?_
    refine W_cond rfl (by decide) (fun _ => ?_) (fun hc => by cases hc)
    refine W_seq ?_
    refine W_region ?_
    refine WL_cons hC.fn (.plain rfl (oc_call hC .nil (.same (by first | exact inSL_I _ | simp)) (awake01_c) glob_nil (by first | exact inSL_I _ | simp) (by first | exact .inl rfl | exact .inr (by simp)) rfl rfl)) ?_
    refine WL_cons hC.fn (.plain rfl (oc_assign hC (.tmp rfl) rfl rfl)) ?_
    refine WL_nil ?_
    refine W_ret ?_
    exact fin0 (.cons (.tmp rfl) .nil) rfl trivial
  ·
    refine W_region ?_
    refine WL_cons hC.fn (.plain rfl (oc_move hC (.tmp rfl) rfl rfl)) ?_
    refine WL_cons hC.fn (.plain rfl (ox_cmp hC rfl (.tmp rfl) .cint (r := false) (by simp only [cmpI]; exact decide_eq_false (by omega)) rfl rfl)) ?_
    refine WL_cons hC.fn (.plain rfl (oc_move hC (.tmp rfl) rfl rfl)) ?_
    refine WL_cons hC.fn (.yes rfl rfl (by decide) rfl (oc_move hC (.tmp rfl) rfl rfl)) ?_
    refine WL_cons hC.fn (.yes rfl rfl (by decide) rfl (ox_cmp hC rfl (.tmp rfl) .cint (r := true) (by simp only [cmpI]; exact decide_eq_true (by omega)) rfl rfl)) ?_
    refine WL_cons hC.fn (.plain rfl (ox_pick hC (.tmp rfl) .cbool (.tmp rfl) (by first | exact pick_t | exact pick_f | rfl) rfl rfl)) ?_
    refine WL_nil ?_
    refine W_cond rfl (by decide) (fun _ => ?_) (fun hc => by cases hc)
    refine W_seq ?_
    refine W_region ?_
    refine WL_cons hC.fn (.plain rfl (oc_call hC .nil (.same (by first | exact inSL_I _ | simp)) (awake01_c) glob_nil (by first | exact inSL_I _ | simp) (by first | exact .inl rfl | exact .inr (by simp)) rfl rfl)) ?_
    refine WL_cons hC.fn (.plain rfl (oc_assign hC (.tmp rfl) rfl rfl)) ?_
    refine WL_nil ?_
    refine W_ret ?_
    exact fin0 (.cons (.tmp rfl) .nil) rfl trivial
  ·
    obtain ⟨wd, rfl⟩ := Int.eq_ofNat_of_zero_le h.1
    have hfl := length_fixL m wd
    have hf8 := B8_fixL m wd
    have hvf := vle_fixL wd m
    refine W_region ?_
    refine WL_cons hC.fn (.plain rfl (oc_move hC (.tmp rfl) rfl rfl)) ?_
    refine WL_cons hC.fn (.plain rfl (ox_cmp hC rfl (.tmp rfl) .cint (r := false) (by simp only [cmpI]; exact decide_eq_false (by omega)) rfl rfl)) ?_
    refine WL_cons hC.fn (.plain rfl (oc_move hC (.tmp rfl) rfl rfl)) ?_
    refine WL_cons hC.fn (.yes rfl rfl (by decide) rfl (oc_move hC (.tmp rfl) rfl rfl)) ?_
    refine WL_cons hC.fn (.yes rfl rfl (by decide) rfl (ox_cmp hC rfl (.tmp rfl) .cint (r := false) (by simp only [cmpI]; exact decide_eq_false (by omega)) rfl rfl)) ?_
    refine WL_cons hC.fn (.plain rfl (ox_pick hC (.tmp rfl) .cbool (.tmp rfl) (by first | exact pick_t | exact pick_f | rfl) rfl rfl)) ?_
    refine WL_nil ?_
    refine W_cond rfl (by decide) (fun hc => by cases hc) (fun _ => ?_)
    refine W_skip ?_
    refine W_seq ?_
    refine W_region ?_
    refine WL_cons hC.fn (.plain rfl (oc_move hC (.tmp rfl) rfl rfl)) ?_
    refine WL_cons hC.fn (.plain rfl (oc_move hC (.tmp rfl) rfl rfl)) ?_
    refine WL_cons hC.fn (.plain rfl (oc_callN hC (.cons .cnils (.cons (.tmp rfl) (.cons (.tmp rfl) .nil))) (.cons1 (by first | exact .free (by first | exact inSL_I _ | simp) | exact .row rfl rfl (by first | exact inSL_I _ | simp) | exact .nils | exact .sl1 rfl (by first | exact cut_I | rfl) (by first | exact inSL_I _ | simp)) (.cons1 (.free (by first | exact inSL_I _ | simp)) (.cons1 (.free (by first | exact inSL_I _ | simp)) (.same (by first | exact inSL_I _ | simp))))) (fixn_c m wd wd (.inl ⟨rfl, by omega⟩)) glob_nil (by first | exact inSL_I _ | simp) rfl (by first | exact .inl rfl | exact .inr ⟨by simp, novsL_I _⟩ | exact .inr ⟨by simp, by simp⟩) rfl rfl)) ?_
    refine WL_cons hC.fn (.plain rfl (oc_assign hC (.tmp rfl) rfl rfl)) ?_
    refine WL_nil ?_
    refine W_seq ?_
    refine W_region ?_
    refine WL_cons hC.fn (.plain rfl (oc_move hC (.tmp rfl) rfl rfl)) ?_
    refine WL_cons hC.fn (.plain rfl (oc_assign hC (.tmp rfl) rfl rfl)) ?_
    refine WL_nil ?_
    refine W_seq ?_
    refine W_seq ?_
    refine W_region ?_
    refine WL_cons hC.fn (.plain rfl (oc_move hC (.tmp rfl) rfl rfl)) ?_
    refine WL_cons hC.fn (.plain rfl (ox_cmp hC rfl (.tmp rfl) .cint rfl rfl rfl)) ?_
    refine WL_nil ?_
    refine W_cond rfl (by decide) (fun hc => ?_) (fun hc => ?_)
    ·
      replace hc := lss_t hc
      have hw8 : wd < 8 := by omega
      refine W_region ?_
      refine WL_cons hC.fn (.plain rfl (oc_move hC (.tmp rfl) rfl rfl)) ?_
      refine WL_cons hC.fn (.plain rfl (oc_move hC (.tmp rfl) rfl rfl)) ?_
      refine WL_cons hC.fn (.plain rfl (oc_bin hC rfl .cint (.tmp rfl) (r := ((8 * wd : Nat) : Int)) (nmul (x := 8) (by omega)) rfl rfl)) ?_
      refine WL_cons hC.fn (.plain rfl (oc_shift hC (.inl rfl) .cint (.tmp rfl) (by omega) (r := ((256 ^ wd : Nat) : Int)) (shl8 (by omega)) rfl rfl)) ?_
      refine WL_cons hC.fn (.plain rfl (oc_bin hC rfl (.tmp rfl) .cint (r := ((256 ^ wd - 1 : Nat) : Int)) (mask1 (by omega)) rfl rfl)) ?_
      refine WL_cons hC.fn (.plain rfl (oc_bin hC rfl (.tmp rfl) (.tmp rfl) (r := ((m % 256 ^ wd : Nat) : Int)) (and_mask hm hw8) rfl rfl)) ?_
      refine WL_cons hC.fn (.plain rfl (oc_assign hC (.tmp rfl) rfl rfl)) ?_
      refine WL_nil ?_
      refine W_seq ?_
      refine W_region ?_
      refine WL_weak (weak_frz (t := 5) (b := (fixL m wd)) rfl rfl (.here rfl) hfl) ?_
      refine WL_cons hC.fn (.plain rfl (oc_move hC (.tmp rfl) rfl rfl)) ?_
      refine WL_cons hC.fn (.plain rfl (oc_callG (τ := fun k => bif Nat.beq k 0 then 1 else k) (N' := 2) hC .func (.cons (.tmp rfl) .nil) (.v1 (by first | exact .free (by first | exact inSL_I _ | simp) | exact .row rfl rfl (by first | exact inSL_I _ | simp) | exact .nils | exact .sl1 rfl (by first | exact cut_I | rfl) (by first | exact inSL_I _ | simp)) .end) (new_c wd (fixL m wd) hfl (by omega)) glob_nil mr_nil (mr_cons (by first | exact ren_blkI | exact ren_rowI | exact Blk.ren_free (by simp) _ | rfl) rfl mr_nil) rfl rd_nil rfl rfl rfl rfl (by first | exact .inl rfl | exact .inr ⟨by simp, (nv_cons (by first | exact novsL_I _ | simp) nv_nil)⟩) rfl (dst_ok rfl rfl) (fun t => setE_cons _ _ _ _))) ?_
      refine WL_cons hC.fn (.plain rfl (oc_assign hC (.tmp rfl) rfl rfl)) ?_
      refine WL_nil ?_
      refine W_seq ?_
      refine W_region ?_
      refine WL_cons hC.fn (.plain rfl (oc_move hC (.tmp rfl) rfl rfl)) ?_
      refine WL_cons hC.fn (.plain rfl (ox_len hC (.tmp rfl) (by first | exact .row rfl | exact .vs | exact .sl rfl | exact .nils) Try.underlying22 (r := (wd : Int)) rfl rfl rfl)) ?_
      refine WL_cons hC.fn (.plain rfl (oc_move hC (.tmp rfl) rfl rfl)) ?_
      refine WL_cons hC.fn (.plain rfl (ox_cmp hC rfl (.tmp rfl) (.tmp rfl) (r := true) (by simp [cmpI]) rfl rfl)) ?_
      refine WL_cons hC.fn (.plain rfl (oc_move hC (.tmp rfl) rfl rfl)) ?_
      refine WL_cons hC.fn (.yes rfl rfl (by decide) rfl (oc_move hC (.tmp rfl) rfl rfl)) ?_
      refine WL_cons hC.fn (.yes rfl rfl (by decide) rfl (oc_move hC (.tmp rfl) rfl rfl)) ?_
      refine WL_cons hC.fn (.yes rfl rfl (by decide) rfl (oc_callG (τ := fun k => bif Nat.beq k 0 then 1 else k) (N' := 2) hC .func (.cons (.tmp rfl) (.cons (.tmp rfl) .nil)) (.own (by first | rfl | simp) (.v1 (.free (by first | exact inSL_I _ | simp)) .end)) (fixr_c wd (fixL m wd) 0 hfl hf8 (by omega) wd (by omega) rfl (by omega)) glob_nil (mr_cons (by first | exact ren_blkI | exact ren_rowI | exact Blk.ren_free (by simp) _ | rfl) rfl mr_nil) (mr_cons (by first | exact ren_blkI | exact ren_rowI | exact Blk.ren_free (by simp) _ | rfl) rfl mr_nil) rfl (rd_cons rfl rd_nil) rfl rfl rfl rfl (by first | exact .inl rfl | exact .inr ⟨by simp, (nv_cons (by first | exact novsL_I _ | simp) nv_nil)⟩) rfl (dst_ok rfl rfl) (fun t => setE_cons _ _ _ _))) ?_
      rw [List.take_of_length_le (show (fixL m wd).length ≤ _ by omega), hvf, List.drop_of_length_le (show (fixL m wd).length ≤ _ by omega), Nat.sub_self]
      refine WL_cons hC.fn (.yes rfl rfl (by decide) rfl (oc_move hC (.tmp rfl) rfl rfl)) ?_
      refine WL_cons hC.fn (.yes rfl rfl (by decide) rfl (ox_cmp hC rfl (.tmp rfl) (.tmp rfl) (r := true) (by simp [cmpI]) rfl rfl)) ?_
      refine WL_cons hC.fn (.plain rfl (ox_pick hC (.tmp rfl) (.tmp rfl) .cbool (by first | exact pick_t | exact pick_f | rfl) rfl rfl)) ?_
      refine WL_cons hC.fn (.plain rfl (oc_move hC (.tmp rfl) rfl rfl)) ?_
      refine WL_cons hC.fn (.yes rfl rfl (by decide) rfl (oc_move hC (.tmp rfl) rfl rfl)) ?_
      refine WL_cons hC.fn (.yes rfl rfl (by decide) rfl (oc_callG (τ := fun k => bif Nat.beq k 0 then 1 else k) (N' := 2) hC .func (.cons (.tmp rfl) .nil) (.own (by first | rfl | simp) .end) (end_c 0 [] 0 rfl (by intro x hx; cases hx) (by decide) 0 (.inr (.inl ⟨rfl, rfl, rfl⟩))) glob_nil (mr_cons (by first | exact ren_blkI | exact ren_rowI | exact Blk.ren_free (by simp) _ | rfl) rfl mr_nil) (mr_cons (by first | exact ren_blkI | exact ren_rowI | exact Blk.ren_free (by simp) _ | rfl) rfl mr_nil) rfl (rd_cons rfl rd_nil) rfl rfl rfl rfl (by first | exact .inl rfl | exact .inr ⟨by simp, (nv_cons (by first | exact novsL_I _ | simp) nv_nil)⟩) rfl (dst_ok rfl rfl) (fun t => setE_cons _ _ _ _))) ?_
      refine WL_cons hC.fn (.yes rfl rfl (by decide) rfl (ox_cmp hC rfl (.tmp rfl) .cint (r := true) rfl rfl rfl)) ?_
      refine WL_cons hC.fn (.plain rfl (ox_pick hC (.tmp rfl) (.tmp rfl) .cbool (by first | exact pick_t | exact pick_f | rfl) rfl rfl)) ?_
      refine WL_cons hC.fn (.plain rfl (oc_move hC (.tmp rfl) rfl rfl)) ?_
      refine WL_cons hC.fn (.yes rfl rfl (by decide) rfl (oc_call hC .nil (.same (by first | exact inSL_I _ | simp)) (awake01_c) glob_nil (by first | exact inSL_I _ | simp) (by first | exact .inl rfl | exact .inr (by simp)) rfl rfl)) ?_
      refine WL_cons hC.fn (.plain rfl (ox_pick hC (.tmp rfl) (.tmp rfl) .cbool (by first | exact pick_t | exact pick_f | rfl) rfl rfl)) ?_
      refine WL_cons hC.fn (.plain rfl (oc_assign hC (.tmp rfl) rfl rfl)) ?_
      refine WL_nil ?_
      refine W_ret ?_
      exact fin0 (.cons (.tmp rfl) .nil) rfl trivial
    ·
      replace hc := lss_f hc
      have hw8 : wd = 8 := by omega
      rw [hw8, show m % 256 ^ 8 = m from Nat.mod_eq_of_lt hm, ← hw8] at hvf
      refine W_skip ?_
      refine W_seq ?_
      refine W_region ?_
      refine WL_weak (weak_frz (t := 5) (b := (fixL m wd)) rfl rfl (.here rfl) hfl) ?_
      refine WL_cons hC.fn (.plain rfl (oc_move hC (.tmp rfl) rfl rfl)) ?_
      refine WL_cons hC.fn (.plain rfl (oc_callG (τ := fun k => bif Nat.beq k 0 then 1 else k) (N' := 2) hC .func (.cons (.tmp rfl) .nil) (.v1 (by first | exact .free (by first | exact inSL_I _ | simp) | exact .row rfl rfl (by first | exact inSL_I _ | simp) | exact .nils | exact .sl1 rfl (by first | exact cut_I | rfl) (by first | exact inSL_I _ | simp)) .end) (new_c wd (fixL m wd) hfl (by omega)) glob_nil mr_nil (mr_cons (by first | exact ren_blkI | exact ren_rowI | exact Blk.ren_free (by simp) _ | rfl) rfl mr_nil) rfl rd_nil rfl rfl rfl rfl (by first | exact .inl rfl | exact .inr ⟨by simp, (nv_cons (by first | exact novsL_I _ | simp) nv_nil)⟩) rfl (dst_ok rfl rfl) (fun t => setE_cons _ _ _ _))) ?_
      refine WL_cons hC.fn (.plain rfl (oc_assign hC (.tmp rfl) rfl rfl)) ?_
      refine WL_nil ?_
      refine W_seq ?_
      refine W_region ?_
      refine WL_cons hC.fn (.plain rfl (oc_move hC (.tmp rfl) rfl rfl)) ?_
      refine WL_cons hC.fn (.plain rfl (ox_len hC (.tmp rfl) (by first | exact .row rfl | exact .vs | exact .sl rfl | exact .nils) Try.underlying22 (r := (wd : Int)) rfl rfl rfl)) ?_
      refine WL_cons hC.fn (.plain rfl (oc_move hC (.tmp rfl) rfl rfl)) ?_
      refine WL_cons hC.fn (.plain rfl (ox_cmp hC rfl (.tmp rfl) (.tmp rfl) (r := true) (by simp [cmpI]) rfl rfl)) ?_
      refine WL_cons hC.fn (.plain rfl (oc_move hC (.tmp rfl) rfl rfl)) ?_
      refine WL_cons hC.fn (.yes rfl rfl (by decide) rfl (oc_move hC (.tmp rfl) rfl rfl)) ?_
      refine WL_cons hC.fn (.yes rfl rfl (by decide) rfl (oc_move hC (.tmp rfl) rfl rfl)) ?_
      refine WL_cons hC.fn (.yes rfl rfl (by decide) rfl (oc_callG (τ := fun k => bif Nat.beq k 0 then 1 else k) (N' := 2) hC .func (.cons (.tmp rfl) (.cons (.tmp rfl) .nil)) (.own (by first | rfl | simp) (.v1 (.free (by first | exact inSL_I _ | simp)) .end)) (fixr_c wd (fixL m wd) 0 hfl hf8 (by omega) wd (by omega) rfl (by omega)) glob_nil (mr_cons (by first | exact ren_blkI | exact ren_rowI | exact Blk.ren_free (by simp) _ | rfl) rfl mr_nil) (mr_cons (by first | exact ren_blkI | exact ren_rowI | exact Blk.ren_free (by simp) _ | rfl) rfl mr_nil) rfl (rd_cons rfl rd_nil) rfl rfl rfl rfl (by first | exact .inl rfl | exact .inr ⟨by simp, (nv_cons (by first | exact novsL_I _ | simp) nv_nil)⟩) rfl (dst_ok rfl rfl) (fun t => setE_cons _ _ _ _))) ?_
      rw [List.take_of_length_le (show (fixL m wd).length ≤ _ by omega), hvf, List.drop_of_length_le (show (fixL m wd).length ≤ _ by omega), Nat.sub_self]
      refine WL_cons hC.fn (.yes rfl rfl (by decide) rfl (oc_move hC (.tmp rfl) rfl rfl)) ?_
      refine WL_cons hC.fn (.yes rfl rfl (by decide) rfl (ox_cmp hC rfl (.tmp rfl) (.tmp rfl) (r := true) (by simp [cmpI]) rfl rfl)) ?_
      refine WL_cons hC.fn (.plain rfl (ox_pick hC (.tmp rfl) (.tmp rfl) .cbool (by first | exact pick_t | exact pick_f | rfl) rfl rfl)) ?_
      refine WL_cons hC.fn (.plain rfl (oc_move hC (.tmp rfl) rfl rfl)) ?_
      refine WL_cons hC.fn (.yes rfl rfl (by decide) rfl (oc_move hC (.tmp rfl) rfl rfl)) ?_
      refine WL_cons hC.fn (.yes rfl rfl (by decide) rfl (oc_callG (τ := fun k => bif Nat.beq k 0 then 1 else k) (N' := 2) hC .func (.cons (.tmp rfl) .nil) (.own (by first | rfl | simp) .end) (end_c 0 [] 0 rfl (by intro x hx; cases hx) (by decide) 0 (.inr (.inl ⟨rfl, rfl, rfl⟩))) glob_nil (mr_cons (by first | exact ren_blkI | exact ren_rowI | exact Blk.ren_free (by simp) _ | rfl) rfl mr_nil) (mr_cons (by first | exact ren_blkI | exact ren_rowI | exact Blk.ren_free (by simp) _ | rfl) rfl mr_nil) rfl (rd_cons rfl rd_nil) rfl rfl rfl rfl (by first | exact .inl rfl | exact .inr ⟨by simp, (nv_cons (by first | exact novsL_I _ | simp) nv_nil)⟩) rfl (dst_ok rfl rfl) (fun t => setE_cons _ _ _ _))) ?_
      refine WL_cons hC.fn (.yes rfl rfl (by decide) rfl (ox_cmp hC rfl (.tmp rfl) .cint (r := true) rfl rfl rfl)) ?_
      refine WL_cons hC.fn (.plain rfl (ox_pick hC (.tmp rfl) (.tmp rfl) .cbool (by first | exact pick_t | exact pick_f | rfl) rfl rfl)) ?_
      refine WL_cons hC.fn (.plain rfl (oc_move hC (.tmp rfl) rfl rfl)) ?_
      refine WL_cons hC.fn (.yes rfl rfl (by decide) rfl (oc_call hC .nil (.same (by first | exact inSL_I _ | simp)) (awake01_c) glob_nil (by first | exact inSL_I _ | simp) (by first | exact .inl rfl | exact .inr (by simp)) rfl rfl)) ?_
      refine WL_cons hC.fn (.plain rfl (ox_pick hC (.tmp rfl) (.tmp rfl) .cbool (by first | exact pick_t | exact pick_f | rfl) rfl rfl)) ?_
      refine WL_cons hC.fn (.plain rfl (oc_assign hC (.tmp rfl) rfl rfl)) ?_
      refine WL_nil ?_
      refine W_ret ?_
      exact fin0 (.cons (.tmp rfl) .nil) rfl trivial
set_option maxRecDepth 20000 in
set_option maxHeartbeats 4000000 in
theorem law_OctetOne (b : List Int) (hb8 : B8 b) : FnC Try.prog 3 [] [.vs b.length (I .u8 b)] [] [] (.b true) := by
  refine FnC.introR (N0 := 0) (T := 50) (E := [(0, .vs b.length (I .u8 b))]) Try.func3 rfl (by decide) mix rfl rfl rfl (by simp) rfl ⟨(by first | exact inSL_I _ | trivial | simp), trivial⟩ (by simp) (by intro S _ _ h; simp) (fun F n0 X w ρ hC hro => ?_)
  refine W_seq ?_
  refine W_region ?_
  refine WL_cons hC.fn (.plain rfl (oc_assign hC .cbool rfl rfl)) ?_
  refine WL_nil ?_
  refine W_seq ?_
  refine W_seq ?_
  rcases (show (20 < b.length) ∨ (b.length ≤ 20) by omega) with h | h
  ·
    refine W_region ?_
    refine WL_cons hC.fn (.plain rfl (oc_move hC (.tmp rfl) rfl rfl)) ?_
    refine WL_cons hC.fn (.plain rfl (ox_len hC (.tmp rfl) (by first | exact .row rfl | exact .vs | exact .sl rfl | exact .nils) Try.underlying22 rfl rfl rfl)) ?_
    refine WL_cons hC.fn (.plain rfl (ox_cmp hC rfl (.tmp rfl) .cint (r := true) (by simp only [cmpI]; exact decide_eq_true (by omega)) rfl rfl)) ?_
    refine WL_nil ?_
    refine W_cond rfl (by decide) (fun _ => ?_) (fun hc => by cases hc)
    refine W_seq ?_
    refine W_region ?_
    refine WL_cons hC.fn (.plain rfl (oc_call hC .nil (.same (by first | exact inSL_I _ | simp)) (awake01_c) glob_nil (by first | exact inSL_I _ | simp) (by first | exact .inl rfl | exact .inr (by simp)) rfl rfl)) ?_
    refine WL_cons hC.fn (.plain rfl (oc_assign hC (.tmp rfl) rfl rfl)) ?_
    refine WL_nil ?_
    refine W_ret ?_
    exact fin0 (.cons (.tmp rfl) .nil) rfl trivial
  ·
    refine W_region ?_
    refine WL_cons hC.fn (.plain rfl (oc_move hC (.tmp rfl) rfl rfl)) ?_
    refine WL_cons hC.fn (.plain rfl (ox_len hC (.tmp rfl) (by first | exact .row rfl | exact .vs | exact .sl rfl | exact .nils) Try.underlying22 rfl rfl rfl)) ?_
    refine WL_cons hC.fn (.plain rfl (ox_cmp hC rfl (.tmp rfl) .cint (r := false) (by simp only [cmpI]; exact decide_eq_false (by omega)) rfl rfl)) ?_
    refine WL_nil ?_
    refine W_cond rfl (by decide) (fun hc => by cases hc) (fun _ => ?_)
    refine W_skip ?_
    refine W_seq ?_
    refine W_region ?_
    obtain ⟨e1, b1, v, hN⟩ := numS_ex b 0 1099511627775
    have h18 := hN.b8 hb8
    have hln := hN.len
    refine WL_cons hC.fn (.plain rfl (oc_move hC (.tmp rfl) rfl rfl)) ?_
    refine WL_cons hC.fn (.plain rfl (oc_callG (τ := fun k => bif Nat.beq k 0 then 0 else k) (N' := 1) hC .func (.cons (.tmp rfl) .nil) (.v1 (by first | exact .free (by first | exact inSL_I _ | simp) | exact .row rfl rfl (by first | exact inSL_I _ | simp) | exact .nils | exact .sl1 rfl (by first | exact cut_I | rfl) (by first | exact inSL_I _ | simp)) .end) (new_c b.length b rfl (by omega)) glob_nil mr_nil (mr_cons (by first | exact ren_blkI | exact ren_rowI | exact Blk.ren_free (by simp) _ | rfl) rfl mr_nil) rfl rd_nil rfl rfl rfl rfl (by first | exact .inl rfl | exact .inr ⟨by simp, (nv_cons (by first | exact novsL_I _ | simp) nv_nil)⟩) rfl (dst_ok rfl rfl) (fun t => setE_cons _ _ _ _))) ?_
    refine WL_cons hC.fn (.plain rfl (oc_assign hC (.tmp rfl) rfl rfl)) ?_
    refine WL_nil ?_
    refine W_seq ?_
    refine W_region ?_
    refine WL_cons hC.fn (.plain rfl (oc_move hC (.tmp rfl) rfl rfl)) ?_
    refine WL_cons hC.fn (.plain rfl (oc_callG (τ := fun k => bif Nat.beq k 0 then 0 else k) (N' := 1) hC .func (.cons (.tmp rfl) (.cons .cint .nil)) (.own (by first | rfl | simp) (.v1 (.free (by first | exact inSL_I _ | simp)) .end)) (num_u b b1 0 e1 hb8 (by omega) 1099511627775 v hN) glob_nil (mr_cons (by first | exact ren_blkI | exact ren_rowI | exact Blk.ren_free (by simp) _ | rfl) rfl mr_nil) (mr_cons (by first | exact ren_blkI | exact ren_rowI | exact Blk.ren_free (by simp) _ | rfl) rfl mr_nil) rfl (rd_cons rfl rd_nil) rfl rfl rfl rfl (by first | exact .inl rfl | exact .inr ⟨by simp, (nv_cons (by first | exact novsL_I _ | simp) nv_nil)⟩) rfl (dst_ok rfl rfl) (fun t => setE_cons _ _ _ _))) ?_
    refine WL_cons hC.fn (.plain rfl (oc_assign hC (.tmp rfl) rfl rfl)) ?_
    refine WL_nil ?_
    refine W_seq ?_
    refine W_seq ?_
    rcases (show e1 ≠ 0 ∨ e1 = 0 by omega) with h2 | h2
    ·
      have hv := hN.fail h2
      subst hv
      refine W_region ?_
      refine WL_cons hC.fn (.plain rfl (oc_move hC (.tmp rfl) rfl rfl)) ?_
      refine WL_cons hC.fn (.plain rfl (oc_callG (τ := fun k => bif Nat.beq k 0 then 0 else k) (N' := 1) hC .func (.cons (.tmp rfl) .nil) (.own (by first | rfl | simp) .end) (err_c b1.length b1 e1 rfl h18 (by omega)) glob_nil (mr_cons (by first | exact ren_blkI | exact ren_rowI | exact Blk.ren_free (by simp) _ | rfl) rfl mr_nil) (mr_cons (by first | exact ren_blkI | exact ren_rowI | exact Blk.ren_free (by simp) _ | rfl) rfl mr_nil) rfl (rd_cons rfl rd_nil) rfl rfl rfl rfl (by first | exact .inl rfl | exact .inr ⟨by simp, (nv_cons (by first | exact novsL_I _ | simp) nv_nil)⟩) rfl (dst_ok rfl rfl) (fun t => setE_cons _ _ _ _))) ?_
      refine WL_cons hC.fn (.plain rfl (ox_cmp hC rfl (.tmp rfl) .cint (r := true) (by simp only [cmpI]; exact decide_eq_true (by omega)) rfl rfl)) ?_
      refine WL_nil ?_
      refine W_cond rfl (by decide) (fun _ => ?_) (fun hc => by cases hc)
      refine W_seq ?_
      refine W_region ?_
      refine WL_cons hC.fn (.plain rfl (oc_move hC (.tmp rfl) rfl rfl)) ?_
      refine WL_cons hC.fn (.plain rfl (ox_cmp hC rfl (.tmp rfl) .cint (r := true) rfl rfl rfl)) ?_
      refine WL_cons hC.fn (.plain rfl (oc_move hC (.tmp rfl) rfl rfl)) ?_
      refine WL_cons hC.fn (.yes rfl rfl (by decide) rfl (oc_move hC (.tmp rfl) rfl rfl)) ?_
      refine WL_cons hC.fn (.yes rfl rfl (by decide) rfl (oc_callG (τ := fun k => bif Nat.beq k 0 then 0 else k) (N' := 1) hC .func (.cons (.tmp rfl) .nil) (.own (by first | rfl | simp) .end) (left_c b1.length b1 e1 rfl h18 (by omega) 0 (.inr ⟨h2, rfl⟩)) glob_nil (mr_cons (by first | exact ren_blkI | exact ren_rowI | exact Blk.ren_free (by simp) _ | rfl) rfl mr_nil) (mr_cons (by first | exact ren_blkI | exact ren_rowI | exact Blk.ren_free (by simp) _ | rfl) rfl mr_nil) rfl (rd_cons rfl rd_nil) rfl rfl rfl rfl (by first | exact .inl rfl | exact .inr ⟨by simp, (nv_cons (by first | exact novsL_I _ | simp) nv_nil)⟩) rfl (dst_ok rfl rfl) (fun t => setE_cons _ _ _ _))) ?_
      refine WL_cons hC.fn (.yes rfl rfl (by decide) rfl (ox_cmp hC rfl (.tmp rfl) .cint (r := true) rfl rfl rfl)) ?_
      refine WL_cons hC.fn (.plain rfl (ox_pick hC (.tmp rfl) (.tmp rfl) .cbool (by first | exact pick_t | exact pick_f | rfl) rfl rfl)) ?_
      refine WL_cons hC.fn (.plain rfl (oc_move hC (.tmp rfl) rfl rfl)) ?_
      refine WL_cons hC.fn (.yes rfl rfl (by decide) rfl (oc_call hC .nil (.same (by first | exact inSL_I _ | simp)) (awake01_c) glob_nil (by first | exact inSL_I _ | simp) (by first | exact .inl rfl | exact .inr (by simp)) rfl rfl)) ?_
      refine WL_cons hC.fn (.plain rfl (ox_pick hC (.tmp rfl) (.tmp rfl) .cbool (by first | exact pick_t | exact pick_f | rfl) rfl rfl)) ?_
      refine WL_cons hC.fn (.plain rfl (oc_assign hC (.tmp rfl) rfl rfl)) ?_
      refine WL_nil ?_
      refine W_ret ?_
      exact fin0 (.cons (.tmp rfl) .nil) rfl trivial
    ·
      subst h2
      obtain ⟨nC, rfl, hm, hcan, hlen⟩ := (show NumR b 1099511627775 0 b1 v by cases hN with | err he => exact absurd rfl he | go _ h => exact h).can hb8
      have hlp := length_putV hm
      refine W_region ?_
      refine WL_cons hC.fn (.plain rfl (oc_move hC (.tmp rfl) rfl rfl)) ?_
      refine WL_cons hC.fn (.plain rfl (oc_callG (τ := fun k => bif Nat.beq k 0 then 0 else k) (N' := 1) hC .func (.cons (.tmp rfl) .nil) (.own (by first | rfl | simp) .end) (err_c b1.length b1 0 rfl h18 (by omega)) glob_nil (mr_cons (by first | exact ren_blkI | exact ren_rowI | exact Blk.ren_free (by simp) _ | rfl) rfl mr_nil) (mr_cons (by first | exact ren_blkI | exact ren_rowI | exact Blk.ren_free (by simp) _ | rfl) rfl mr_nil) rfl (rd_cons rfl rd_nil) rfl rfl rfl rfl (by first | exact .inl rfl | exact .inr ⟨by simp, (nv_cons (by first | exact novsL_I _ | simp) nv_nil)⟩) rfl (dst_ok rfl rfl) (fun t => setE_cons _ _ _ _))) ?_
      refine WL_cons hC.fn (.plain rfl (ox_cmp hC rfl (.tmp rfl) .cint (r := false) (by simp only [cmpI]; exact decide_eq_false (by omega)) rfl rfl)) ?_
      refine WL_nil ?_
      refine W_cond rfl (by decide) (fun hc => by cases hc) (fun _ => ?_)
      refine W_skip ?_
      refine W_seq ?_
      refine W_region ?_
      refine WL_cons hC.fn (.plain rfl (oc_move hC (.tmp rfl) rfl rfl)) ?_
      refine WL_cons hC.fn (.plain rfl (oc_callN hC (.cons .cnils (.cons (.tmp rfl) .nil)) (.cons1 (by first | exact .free (by first | exact inSL_I _ | simp) | exact .row rfl rfl (by first | exact inSL_I _ | simp) | exact .nils | exact .sl1 rfl (by first | exact cut_I | rfl) (by first | exact inSL_I _ | simp)) (.cons1 (.free (by first | exact inSL_I _ | simp)) (.same (by first | exact inSL_I _ | simp)))) (putn_c nC nC (.inl ⟨rfl, hm⟩)) glob_nil (by first | exact inSL_I _ | simp) rfl (by first | exact .inl rfl | exact .inr ⟨by simp, novsL_I _⟩ | exact .inr ⟨by simp, by simp⟩) rfl rfl)) ?_
      refine WL_cons hC.fn (.plain rfl (oc_assign hC (.tmp rfl) rfl rfl)) ?_
      refine WL_nil ?_
      refine W_seq ?_
      refine W_drawD hC ?_
      refine WD_cons (.plain rfl (oc_move hC (.tmp rfl) rfl rfl)) ?_
      refine WD_cons (.plain rfl (ox_len hC (.tmp rfl) (by first | exact .row rfl | exact .vs | exact .sl rfl | exact .nils) Try.underlying22 (r := ((putV nC).length : Int)) rfl rfl rfl)) ?_
      refine WD_cons (.plain rfl (oc_move hC (.tmp rfl) rfl rfl)) ?_
      refine WD_cons (.plain rfl (oc_callG (τ := fun k => bif Nat.beq k 0 then 0 else k) (N' := 2) hC .func (.cons (.tmp rfl) .nil) (.own (by first | rfl | simp) .end) (left_c b1.length b1 0 rfl h18 (by omega) b1.length (.inl ⟨rfl, rfl⟩)) glob_nil (mr_cons (by first | exact ren_blkI | exact ren_rowI | exact Blk.ren_free (by simp) _ | rfl) rfl mr_nil) (mr_cons (by first | exact ren_blkI | exact ren_rowI | exact Blk.ren_free (by simp) _ | rfl) rfl mr_nil) rfl (rd_cons rfl rd_nil) rfl rfl rfl rfl (by first | exact .inl rfl | exact .inr ⟨by simp, (nv_cons (by first | exact novsL_I _ | simp) nv_nil)⟩) rfl (dst_ok rfl rfl) (fun t => setE_cons _ _ _ _))) ?_
      refine WD_cons (.plain rfl (oc_bin hC rfl (.tmp rfl) (.tmp rfl) (r := (((putV nC).length + b1.length : Nat) : Int)) (nadd (by omega)) rfl rfl)) ?_
      refine WD_cons (.plain rfl (oc_move hC (.tmp rfl) rfl rfl)) ?_
      refine WD_cons (.plain rfl (ox_len hC (.tmp rfl) (by first | exact .row rfl | exact .vs | exact .sl rfl | exact .nils) Try.underlying22 rfl rfl rfl)) ?_
      refine WD_cons (.plain rfl (ox_cmp hC rfl (.tmp rfl) (.tmp rfl) (r := true) (by simp only [cmpI]; exact decide_eq_true (by omega)) rfl rfl)) ?_
      refine WD_cons (.plain rfl (oc_move hC (.tmp rfl) rfl rfl)) ?_
      refine WD_cons (.yes rfl rfl (by decide) rfl (oc_move hC (.tmp rfl) rfl rfl)) ?_
      refine WD_cons (.yes rfl rfl (by decide) rfl (ox_b2s hC (.tmp rfl) (by first | exact .row rfl | exact .vs | exact .sl rfl | exact .nils) (by first | exact take_allI (by first | assumption | rfl | (simp; omega) | omega) | exact take_cutI | exact take_takeI) (by first | assumption | rfl | omega | (simp; omega)) Try.underlying22 Try.underlying5 Try.underlying9 rfl rfl)) ?_
      refine WD_cons (.yes rfl rfl (by decide) rfl (oc_move hC (.tmp rfl) rfl rfl)) ?_
      refine WD_cons (.yes rfl rfl (by decide) rfl (oc_move hC (.tmp rfl) rfl rfl)) ?_
      refine WD_cons (.yes rfl rfl (by decide) rfl (ox_len hC (.tmp rfl) (by first | exact .row rfl | exact .vs | exact .sl rfl | exact .nils) Try.underlying22 (r := ((putV nC).length : Int)) rfl rfl rfl)) ?_
      refine WD_cons (.yes rfl rfl (by decide) rfl (ox_cutS (u' := .vs (putV nC).length (I .u8 (b.take (putV nC).length))) hC (.tmp rfl) .no (.yes (n := (putV nC).length) (.tmp rfl) (by first | rfl | omega | (simp; omega))) idx_22 (by first | exact .row rfl (Nat.mul_one _) | exact .sl rfl | exact .vs (by first | omega | (simp; omega)) | exact .nils) (by first | omega | (simp; omega)) (by first | omega | (simp; omega)) (by rw [cut_vsI, List.drop_zero]; rfl) rfl rfl)) ?_
      refine WD_cons (.yes rfl rfl (by decide) rfl (ox_b2s (l := (b.take (putV nC).length)) hC (.tmp rfl) (by first | exact .row rfl | exact .vs | exact .sl rfl | exact .nils) (take_allI (by rw [List.length_take]; omega)) (by rw [List.length_take]; omega) Try.underlying22 Try.underlying5 Try.underlying9 rfl rfl)) ?_
      refine WD_cons (.yes rfl rfl (by decide) rfl (ox_eqs hC (.inl rfl) (.tmp rfl) (.tmp rfl) (r := true) (by rw [← hcan]; simp) rfl rfl)) ?_
      refine WD_cons (.plain rfl (ox_pick hC (.tmp rfl) (.tmp rfl) .cbool (by first | exact pick_t | exact pick_f | rfl) rfl rfl)) ?_
      refine WD_cons (.plain rfl (oc_move hC (.tmp rfl) rfl rfl)) ?_
      refine WD_cons (.yes rfl rfl (by decide) rfl (oc_call hC .nil (.same (by first | exact inSL_I _ | simp)) (awake01_c) glob_nil (by first | exact inSL_I _ | simp) (by first | exact .inl rfl | exact .inr (by simp)) rfl rfl)) ?_
      refine WD_cons (.plain rfl (ox_pick hC (.tmp rfl) (.tmp rfl) .cbool (by first | exact pick_t | exact pick_f | rfl) rfl rfl)) ?_
      refine WD_cons (.plain rfl (oc_assign hC (.tmp rfl) rfl rfl)) ?_
      refine WD_nil (by kernel_rfl) ?_
      refine W_ret ?_
      exact fin0 (.cons (.tmp rfl) .nil) rfl trivial
set_option maxRecDepth 20000 in
set_option maxHeartbeats 4000000 in
theorem law_OctetPuts (b x : List Int) (n : Int) (m : Nat) (hm : m < 18446744073709551616) (width : Int) : FnC Try.prog 6 [] [.vs b.length (I .u8 b), .vs x.length (I .u8 x), .i .i64 n, .i .u64 m, .i .i64 width] [] [] (.b true) := by
  obtain ⟨nC, hn⟩ : ∃ nC : Nat, (n = nC ∧ nC ≤ 1099511627775) ∨ ((n < 0 ∨ 1099511627775 < n) ∧ nC = 0) := by
    rcases (show (0 ≤ n ∧ n ≤ 1099511627775) ∨ (n < 0 ∨ 1099511627775 < n) by omega) with h | h
    · exact ⟨n.toNat, .inl (by omega)⟩
    · exact ⟨0, .inr ⟨h, rfl⟩⟩
  have hpn : (putV nC).length ≤ 7 := by rw [putV_eq]; exact length_putN 6 _
  have hpx : (putV x.length).length ≤ 7 := by rw [putV_eq]; exact length_putN 6 _
  refine FnC.introR (N0 := 0) (T := 73) (E := [(0, .vs b.length (I .u8 b)), (1, .vs x.length (I .u8 x)), (2, .i .i64 n), (3, .i .u64 m), (4, .i .i64 width)]) Try.func6 rfl (by decide) mix rfl rfl rfl (by simp) rfl ⟨(by first | exact inSL_I _ | trivial | simp), (by first | exact inSL_I _ | trivial | simp), (by first | exact inSL_I _ | trivial | simp), (by first | exact inSL_I _ | trivial | simp), (by first | exact inSL_I _ | trivial | simp), trivial⟩ (by simp) (by intro S _ _ h; simp) (fun F n0 X w ρ hC hro => ?_)
  refine W_seq ?_
  refine W_region ?_
  refine WL_cons hC.fn (.plain rfl (oc_assign hC .cbool rfl rfl)) ?_
  refine WL_nil ?_
  refine W_seq ?_
  refine W_seq ?_
  rcases (show (2000 < b.length) ∨ (b.length ≤ 2000 ∧ 2000 < x.length) ∨ (b.length ≤ 2000 ∧ x.length ≤ 2000) by omega) with h | h | h
  ·
    refine W_region ?_
    refine WL_cons hC.fn (.plain rfl (oc_move hC (.tmp rfl) rfl rfl)) ?_
    refine WL_cons hC.fn (.plain rfl (ox_len hC (.tmp rfl) (by first | exact .row rfl | exact .vs | exact .sl rfl | exact .nils) Try.underlying22 rfl rfl rfl)) ?_
    refine WL_cons hC.fn (.plain rfl (ox_cmp hC rfl (.tmp rfl) .cint (r := true) (by simp only [cmpI]; exact decide_eq_true (by omega)) rfl rfl)) ?_
    refine WL_cons hC.fn (.plain rfl (oc_move hC (.tmp rfl) rfl rfl)) ?_
    refine WL_cons hC.fn (.no (s1 := ⟨_, (16, .tu []) :: _, _⟩) rfl rfl (by decide) rfl (by decide) (fun t ht => by cases ht; exact ⟨blt_lt rfl, blt_lt rfl⟩) (fun t => setE_cons _ _ _ _) rfl rfl) ?_
    refine WL_cons hC.fn (.no (s1 := ⟨_, (17, .tu []) :: _, _⟩) rfl rfl (by decide) rfl (by decide) (fun t ht => by cases ht; exact ⟨blt_lt rfl, blt_lt rfl⟩) (fun t => setE_cons _ _ _ _) rfl rfl) ?_
    refine WL_cons hC.fn (.no (s1 := ⟨_, (18, .tu []) :: _, _⟩) rfl rfl (by decide) rfl (by decide) (fun t ht => by cases ht; exact ⟨blt_lt rfl, blt_lt rfl⟩) (fun t => setE_cons _ _ _ _) rfl rfl) ?_
    refine WL_cons hC.fn (.plain rfl (ox_pick hC (.tmp rfl) .cbool (.tmp rfl) (by first | exact pick_t | exact pick_f | rfl) rfl rfl)) ?_
    refine WL_nil ?_
    refine W_cond rfl (by decide) (fun _ => ?_) (fun hc => by cases hc)
    refine W_seq ?_
    refine W_region ?_
    refine WL_cons hC.fn (.plain rfl (oc_call hC .nil (.same (by first | exact inSL_I _ | simp)) (awake01_c) glob_nil (by first | exact inSL_I _ | simp) (by first | exact .inl rfl | exact .inr (by simp)) rfl rfl)) ?_
    refine WL_cons hC.fn (.plain rfl (oc_assign hC (.tmp rfl) rfl rfl)) ?_
    refine WL_nil ?_
    refine W_ret ?_
    exact fin0 (.cons (.tmp rfl) .nil) rfl trivial
  ·
    refine W_region ?_
    refine WL_cons hC.fn (.plain rfl (oc_move hC (.tmp rfl) rfl rfl)) ?_
    refine WL_cons hC.fn (.plain rfl (ox_len hC (.tmp rfl) (by first | exact .row rfl | exact .vs | exact .sl rfl | exact .nils) Try.underlying22 rfl rfl rfl)) ?_
    refine WL_cons hC.fn (.plain rfl (ox_cmp hC rfl (.tmp rfl) .cint (r := false) (by simp only [cmpI]; exact decide_eq_false (by omega)) rfl rfl)) ?_
    refine WL_cons hC.fn (.plain rfl (oc_move hC (.tmp rfl) rfl rfl)) ?_
    refine WL_cons hC.fn (.yes rfl rfl (by decide) rfl (oc_move hC (.tmp rfl) rfl rfl)) ?_
    refine WL_cons hC.fn (.yes rfl rfl (by decide) rfl (ox_len hC (.tmp rfl) (by first | exact .row rfl | exact .vs | exact .sl rfl | exact .nils) Try.underlying22 rfl rfl rfl)) ?_
    refine WL_cons hC.fn (.yes rfl rfl (by decide) rfl (ox_cmp hC rfl (.tmp rfl) .cint (r := true) (by simp only [cmpI]; exact decide_eq_true (by omega)) rfl rfl)) ?_
    refine WL_cons hC.fn (.plain rfl (ox_pick hC (.tmp rfl) .cbool (.tmp rfl) (by first | exact pick_t | exact pick_f | rfl) rfl rfl)) ?_
    refine WL_nil ?_
    refine W_cond rfl (by decide) (fun _ => ?_) (fun hc => by cases hc)
    refine W_seq ?_
    refine W_region ?_
    refine WL_cons hC.fn (.plain rfl (oc_call hC .nil (.same (by first | exact inSL_I _ | simp)) (awake01_c) glob_nil (by first | exact inSL_I _ | simp) (by first | exact .inl rfl | exact .inr (by simp)) rfl rfl)) ?_
    refine WL_cons hC.fn (.plain rfl (oc_assign hC (.tmp rfl) rfl rfl)) ?_
    refine WL_nil ?_
    refine W_ret ?_
    exact fin0 (.cons (.tmp rfl) .nil) rfl trivial
  ·
    refine W_region ?_
    refine WL_cons hC.fn (.plain rfl (oc_move hC (.tmp rfl) rfl rfl)) ?_
    refine WL_cons hC.fn (.plain rfl (ox_len hC (.tmp rfl) (by first | exact .row rfl | exact .vs | exact .sl rfl | exact .nils) Try.underlying22 rfl rfl rfl)) ?_
    refine WL_cons hC.fn (.plain rfl (ox_cmp hC rfl (.tmp rfl) .cint (r := false) (by simp only [cmpI]; exact decide_eq_false (by omega)) rfl rfl)) ?_
    refine WL_cons hC.fn (.plain rfl (oc_move hC (.tmp rfl) rfl rfl)) ?_
    refine WL_cons hC.fn (.yes rfl rfl (by decide) rfl (oc_move hC (.tmp rfl) rfl rfl)) ?_
    refine WL_cons hC.fn (.yes rfl rfl (by decide) rfl (ox_len hC (.tmp rfl) (by first | exact .row rfl | exact .vs | exact .sl rfl | exact .nils) Try.underlying22 rfl rfl rfl)) ?_
    refine WL_cons hC.fn (.yes rfl rfl (by decide) rfl (ox_cmp hC rfl (.tmp rfl) .cint (r := false) (by simp only [cmpI]; exact decide_eq_false (by omega)) rfl rfl)) ?_
    refine WL_cons hC.fn (.plain rfl (ox_pick hC (.tmp rfl) .cbool (.tmp rfl) (by first | exact pick_t | exact pick_f | rfl) rfl rfl)) ?_
    refine WL_nil ?_
    refine W_cond rfl (by decide) (fun hc => by cases hc) (fun _ => ?_)
    refine W_skip ?_
    refine W_seq ?_
    refine W_region ?_
    refine WL_cons hC.fn (.plain rfl (ox_litRI (k := .u8) (ws := []) hC .nil Try.underlying22 cells_5 zero_5 rfl (by decide) rfl rfl (by first | rfl | simp) rfl rfl rfl)) ?_
    refine WL_cons hC.fn (.plain rfl (oc_move hC (.tmp rfl) rfl rfl)) ?_
    refine WL_cons hC.fn (.plain rfl (ox_append (n' := b.length) (cs' := I .u8 b) hC (.tmp rfl) (.tmp rfl) (by first | exact .row rfl rfl (by first | exact .here rfl | exact .there (.here rfl) rfl | exact .there (.there (.here rfl) rfl) rfl | exact .there (.there (.there (.here rfl) rfl) rfl) rfl | exact .there (.there (.there (.there (.here rfl) rfl) rfl) rfl) rfl | exact .there (.there (.there (.there (.there (.here rfl) rfl) rfl) rfl) rfl) rfl | exact .there (.there (.there (.there (.there (.there (.here rfl) rfl) rfl) rfl) rfl) rfl) rfl | exact .there (.there (.there (.there (.there (.there (.there (.here rfl) rfl) rfl) rfl) rfl) rfl) rfl) rfl | exact .there (.there (.there (.there (.there (.there (.there (.there (.here rfl) rfl) rfl) rfl) rfl) rfl) rfl) rfl) rfl | exact .there (.there (.there (.there (.there (.there (.there (.there (.there (.here rfl) rfl) rfl) rfl) rfl) rfl) rfl) rfl) rfl) rfl | exact .there (.there (.there (.there (.there (.there (.there (.there (.there (.there (.here rfl) rfl) rfl) rfl) rfl) rfl) rfl) rfl) rfl) rfl) rfl | exact .there (.there (.there (.there (.there (.there (.there (.there (.there (.there (.there (.here rfl) rfl) rfl) rfl) rfl) rfl) rfl) rfl) rfl) rfl) rfl) rfl | exact .there (.there (.there (.there (.there (.there (.there (.there (.there (.there (.there (.there (.here rfl) rfl) rfl) rfl) rfl) rfl) rfl) rfl) rfl) rfl) rfl) rfl) rfl | exact .there (.there (.there (.there (.there (.there (.there (.there (.there (.there (.there (.there (.there (.here rfl) rfl) rfl) rfl) rfl) rfl) rfl) rfl) rfl) rfl) rfl) rfl) rfl) rfl | exact .there (.there (.there (.there (.there (.there (.there (.there (.there (.there (.there (.there (.there (.there (.here rfl) rfl) rfl) rfl) rfl) rfl) rfl) rfl) rfl) rfl) rfl) rfl) rfl) rfl) rfl | exact .there (.there (.there (.there (.there (.there (.there (.there (.there (.there (.there (.there (.there (.there (.there (.here rfl) rfl) rfl) rfl) rfl) rfl) rfl) rfl) rfl) rfl) rfl) rfl) rfl) rfl) rfl) rfl) | exact .nils) (by first | exact .row rfl | exact .vs | exact .sl rfl | exact .nils) (by first | exact hro_nil | exact hro_one rfl) Try.underlying22 cells_5 bytes_5 zero_5 rfl (by decide) (by rw [length_I]; omega) (by first | rfl | exact one_takeI) (Nat.zero_add _) ((app_I (us := []) rfl).trans rfl) (by simp only [maxLen]; omega) (by omega) rfl rfl)) ?_
    refine WL_cons hC.fn (.plain rfl (oc_assign hC (.tmp rfl) rfl rfl)) ?_
    refine WL_nil ?_
    refine W_seq ?_
    rcases (show 8 < width ∨ ((0 ≤ width ∧ width ≤ 8) ∨ width < 0) by omega) with hw | hw
    ·
      refine W_drawD hC ?_
      refine WD_cons (.plain rfl (oc_move hC (.tmp rfl) rfl rfl)) ?_
      refine WD_cons (.plain rfl (oc_move hC (.tmp rfl) rfl rfl)) ?_
      refine WD_cons (.plain rfl (oc_callN hC (.cons (.tmp rfl) (.cons (.tmp rfl) .nil)) (.cons1 (by first | exact .free (by first | exact inSL_I _ | simp) | exact .row rfl rfl (by first | exact inSL_I _ | simp) | exact .nils | exact .sl1 rfl (by first | exact cut_I | rfl) (by first | exact inSL_I _ | simp)) (.cons1 (.free (by first | exact inSL_I _ | simp)) (.same (by first | exact inSL_I _ | simp)))) (put_c b.length nC b n rfl (by omega) hn) glob_nil (by first | exact inSL_I _ | simp) rfl (by first | exact .inl rfl | exact .inr ⟨by simp, novsL_I _⟩ | exact .inr ⟨by simp, by simp⟩) rfl rfl)) ?_
      refine WD_cons (.plain rfl (ox_b2s (l := (b ++ putV nC)) hC (.tmp rfl) (by first | exact .row rfl | exact .vs | exact .sl rfl | exact .nils) (take_allI (by simp)) (by simp) Try.underlying22 Try.underlying5 Try.underlying9 rfl rfl)) ?_
      refine WD_cons (.plain rfl (oc_move hC (.tmp rfl) rfl rfl)) ?_
      refine WD_cons (.plain rfl (ox_b2s hC (.tmp rfl) (by first | exact .row rfl | exact .vs | exact .sl rfl | exact .nils) (by first | exact take_allI (by first | assumption | rfl | (simp; omega) | omega) | exact take_cutI | exact take_takeI) (by first | assumption | rfl | omega | (simp; omega)) Try.underlying22 Try.underlying5 Try.underlying9 rfl rfl)) ?_
      refine WD_cons (.plain rfl (oc_move hC (.tmp rfl) rfl rfl)) ?_
      refine WD_cons (.plain rfl (oc_callN hC (.cons (.tmp rfl) .nil) (.cons1 (.free (by first | exact inSL_I _ | simp)) (.same (by first | exact inSL_I _ | simp))) (rput_c nC n hn) glob_nil (by first | exact inSL_I _ | simp) rfl (by first | exact .inl rfl | exact .inr ⟨by simp, novsL_I _⟩ | exact .inr ⟨by simp, by simp⟩) rfl rfl)) ?_
      refine WD_cons (.plain rfl (ox_b2s hC (.tmp rfl) (by first | exact .row rfl | exact .vs | exact .sl rfl | exact .nils) (by first | exact take_allI (by first | assumption | rfl | (simp; omega) | omega) | exact take_cutI | exact take_takeI) (by first | assumption | rfl | omega | (simp; omega)) Try.underlying22 Try.underlying5 Try.underlying9 rfl rfl)) ?_
      refine WD_cons (.plain rfl (ox_cat hC (.tmp rfl) (.tmp rfl) (by simp only [bs_size]; omega) (bs_append _ _) rfl rfl)) ?_
      refine WD_cons (.plain rfl (ox_eqs hC (.inl rfl) (.tmp rfl) (.tmp rfl) (r := true) (by simp) rfl rfl)) ?_
      refine WD_cons (.plain rfl (oc_move hC (.tmp rfl) rfl rfl)) ?_
      refine WD_cons (.yes rfl rfl (by decide) rfl (oc_move hC (.tmp rfl) rfl rfl)) ?_
      refine WD_cons (.yes rfl rfl (by decide) rfl (oc_move hC (.tmp rfl) rfl rfl)) ?_
      refine WD_cons (.yes rfl rfl (by decide) rfl (oc_callN hC (.cons (.tmp rfl) (.cons (.tmp rfl) .nil)) (.cons1 (by first | exact .free (by first | exact inSL_I _ | simp) | exact .row rfl rfl (by first | exact inSL_I _ | simp) | exact .nils | exact .sl1 rfl (by first | exact cut_I | rfl) (by first | exact inSL_I _ | simp)) (.cons1 (by first | exact .free (by first | exact inSL_I _ | simp) | exact .row rfl rfl (by first | exact inSL_I _ | simp) | exact .nils | exact .sl1 rfl (by first | exact cut_I | rfl) (by first | exact inSL_I _ | simp)) (.same (by first | exact inSL_I _ | simp)))) (putb_c b.length x.length b x rfl rfl (by omega) (by omega)) glob_nil (by first | exact inSL_I _ | simp) rfl (by first | exact .inl rfl | exact .inr ⟨by simp, novsL_I _⟩ | exact .inr ⟨by simp, by simp⟩) rfl rfl)) ?_
      refine WD_cons (.yes rfl rfl (by decide) rfl (ox_b2s (l := (b ++ putV x.length ++ x)) hC (.tmp rfl) (by first | exact .row rfl | exact .vs | exact .sl rfl | exact .nils) (take_allI (by simp; omega)) (by simp; omega) Try.underlying22 Try.underlying5 Try.underlying9 rfl rfl)) ?_
      refine WD_cons (.yes rfl rfl (by decide) rfl (oc_move hC (.tmp rfl) rfl rfl)) ?_
      refine WD_cons (.yes rfl rfl (by decide) rfl (ox_b2s hC (.tmp rfl) (by first | exact .row rfl | exact .vs | exact .sl rfl | exact .nils) (by first | exact take_allI (by first | assumption | rfl | (simp; omega) | omega) | exact take_cutI | exact take_takeI) (by first | assumption | rfl | omega | (simp; omega)) Try.underlying22 Try.underlying5 Try.underlying9 rfl rfl)) ?_
      refine WD_cons (.yes rfl rfl (by decide) rfl (oc_move hC (.tmp rfl) rfl rfl)) ?_
      refine WD_cons (.yes rfl rfl (by decide) rfl (oc_callN hC (.cons (.tmp rfl) .nil) (.cons1 (by first | exact .free (by first | exact inSL_I _ | simp) | exact .row rfl rfl (by first | exact inSL_I _ | simp) | exact .nils | exact .sl1 rfl (by first | exact cut_I | rfl) (by first | exact inSL_I _ | simp)) (.same (by first | exact inSL_I _ | simp))) (rputb_c x.length x rfl (by omega)) glob_nil (by first | exact inSL_I _ | simp) rfl (by first | exact .inl rfl | exact .inr ⟨by simp, novsL_I _⟩ | exact .inr ⟨by simp, by simp⟩) rfl rfl)) ?_
      refine WD_cons (.yes rfl rfl (by decide) rfl (ox_b2s (l := (putV x.length ++ x)) hC (.tmp rfl) (by first | exact .row rfl | exact .vs | exact .sl rfl | exact .nils) (take_allI (by simp)) (by simp) Try.underlying22 Try.underlying5 Try.underlying9 rfl rfl)) ?_
      refine WD_cons (.yes rfl rfl (by decide) rfl (ox_cat hC (.tmp rfl) (.tmp rfl) (by simp only [bs_size, List.length_append, List.length_nil]; omega) (bs_append _ _) rfl rfl)) ?_
      refine WD_cons (.yes rfl rfl (by decide) rfl (ox_eqs hC (.inl rfl) (.tmp rfl) (.tmp rfl) (r := true) (by rw [List.append_assoc]; simp) rfl rfl)) ?_
      refine WD_cons (.plain rfl (ox_pick hC (.tmp rfl) (.tmp rfl) .cbool (by first | exact pick_t | exact pick_f | rfl) rfl rfl)) ?_
      refine WD_cons (.plain rfl (oc_move hC (.tmp rfl) rfl rfl)) ?_
      refine WD_cons (.yes rfl rfl (by decide) rfl (oc_move hC (.tmp rfl) rfl rfl)) ?_
      refine WD_cons (.yes rfl rfl (by decide) rfl (oc_move hC (.tmp rfl) rfl rfl)) ?_
      refine WD_cons (.yes rfl rfl (by decide) rfl (oc_move hC (.tmp rfl) rfl rfl)) ?_
      refine WD_cons (.yes rfl rfl (by decide) rfl (oc_callN hC (.cons (.tmp rfl) (.cons (.tmp rfl) (.cons (.tmp rfl) .nil))) (.cons1 (by first | exact .free (by first | exact inSL_I _ | simp) | exact .row rfl rfl (by first | exact inSL_I _ | simp) | exact .nils | exact .sl1 rfl (by first | exact cut_I | rfl) (by first | exact inSL_I _ | simp)) (.cons1 (.free (by first | exact inSL_I _ | simp)) (.cons1 (.free (by first | exact inSL_I _ | simp)) (.same (by first | exact inSL_I _ | simp))))) (fixbig_c b.length b m width rfl (by omega) hw) glob_nil (by first | exact inSL_I _ | simp) rfl (by first | exact .inl rfl | exact .inr ⟨by simp, novsL_I _⟩ | exact .inr ⟨by simp, by simp⟩) rfl rfl)) ?_
      refine WD_cons (.yes rfl rfl (by decide) rfl (ox_b2s (l := b) hC (.tmp rfl) (by first | exact .row rfl | exact .vs | exact .sl rfl | exact .nils) (take_allI rfl) rfl Try.underlying22 Try.underlying5 Try.underlying9 rfl rfl)) ?_
      refine WD_cons (.yes rfl rfl (by decide) rfl (oc_move hC (.tmp rfl) rfl rfl)) ?_
      refine WD_cons (.yes rfl rfl (by decide) rfl (ox_b2s hC (.tmp rfl) (by first | exact .row rfl | exact .vs | exact .sl rfl | exact .nils) (by first | exact take_allI (by first | assumption | rfl | (simp; omega) | omega) | exact take_cutI | exact take_takeI) (by first | assumption | rfl | omega | (simp; omega)) Try.underlying22 Try.underlying5 Try.underlying9 rfl rfl)) ?_
      refine WD_cons (.yes rfl rfl (by decide) rfl (oc_move hC (.tmp rfl) rfl rfl)) ?_
      refine WD_cons (.yes rfl rfl (by decide) rfl (oc_move hC (.tmp rfl) rfl rfl)) ?_
      refine WD_cons (.yes rfl rfl (by decide) rfl (oc_callN hC (.cons (.tmp rfl) (.cons (.tmp rfl) .nil)) (.cons1 (.free (by first | exact inSL_I _ | simp)) (.cons1 (.free (by first | exact inSL_I _ | simp)) (.same (by first | exact inSL_I _ | simp)))) (rfix_c m 0 width hm (.inr ⟨.inr hw, rfl⟩)) glob_nil (by first | exact inSL_I _ | simp) rfl (by first | exact .inl rfl | exact .inr ⟨by simp, novsL_I _⟩ | exact .inr ⟨by simp, by simp⟩) rfl rfl)) ?_
      rw [show fixL m 0 = [] by simp [fixL]]
      refine WD_cons (.yes rfl rfl (by decide) rfl (ox_b2s hC (.tmp rfl) (by first | exact .row rfl | exact .vs | exact .sl rfl | exact .nils) (by first | exact take_allI (by first | assumption | rfl | (simp; omega) | omega) | exact take_cutI | exact take_takeI) (by first | assumption | rfl | omega | (simp; omega)) Try.underlying22 Try.underlying5 Try.underlying9 rfl rfl)) ?_
      refine WD_cons (.yes rfl rfl (by decide) rfl (ox_cat hC (.tmp rfl) (.tmp rfl) (by simp only [bs_size, List.length_append, List.length_nil]; omega) (bs_append _ _) rfl rfl)) ?_
      refine WD_cons (.yes rfl rfl (by decide) rfl (ox_eqs hC (.inl rfl) (.tmp rfl) (.tmp rfl) (r := true) (by simp) rfl rfl)) ?_
      refine WD_cons (.plain rfl (ox_pick hC (.tmp rfl) (.tmp rfl) .cbool (by first | exact pick_t | exact pick_f | rfl) rfl rfl)) ?_
      refine WD_cons (.plain rfl (oc_move hC (.tmp rfl) rfl rfl)) ?_
      refine WD_cons (.yes rfl rfl (by decide) rfl (oc_move hC (.tmp rfl) rfl rfl)) ?_
      refine WD_cons (.yes rfl rfl (by decide) rfl (ox_b2s hC (.tmp rfl) (by first | exact .row rfl | exact .vs | exact .sl rfl | exact .nils) (by first | exact take_allI (by first | assumption | rfl | (simp; omega) | omega) | exact take_cutI | exact take_takeI) (by first | assumption | rfl | omega | (simp; omega)) Try.underlying22 Try.underlying5 Try.underlying9 rfl rfl)) ?_
      refine WD_cons (.yes rfl rfl (by decide) rfl (oc_move hC (.tmp rfl) rfl rfl)) ?_
      refine WD_cons (.yes rfl rfl (by decide) rfl (ox_b2s hC (.tmp rfl) (by first | exact .row rfl | exact .vs | exact .sl rfl | exact .nils) (by first | exact take_allI (by first | assumption | rfl | (simp; omega) | omega) | exact take_cutI | exact take_takeI) (by first | assumption | rfl | omega | (simp; omega)) Try.underlying22 Try.underlying5 Try.underlying9 rfl rfl)) ?_
      refine WD_cons (.yes rfl rfl (by decide) rfl (ox_eqs hC (.inl rfl) (.tmp rfl) (.tmp rfl) (r := true) (by simp) rfl rfl)) ?_
      refine WD_cons (.plain rfl (ox_pick hC (.tmp rfl) (.tmp rfl) .cbool (by first | exact pick_t | exact pick_f | rfl) rfl rfl)) ?_
      refine WD_cons (.plain rfl (oc_move hC (.tmp rfl) rfl rfl)) ?_
      refine WD_cons (.yes rfl rfl (by decide) rfl (oc_call hC .nil (.same (by first | exact inSL_I _ | simp)) (awake01_c) glob_nil (by first | exact inSL_I _ | simp) (by first | exact .inl rfl | exact .inr (by simp)) rfl rfl)) ?_
      refine WD_cons (.plain rfl (ox_pick hC (.tmp rfl) (.tmp rfl) .cbool (by first | exact pick_t | exact pick_f | rfl) rfl rfl)) ?_
      refine WD_cons (.plain rfl (oc_assign hC (.tmp rfl) rfl rfl)) ?_
      refine WD_nil (by kernel_rfl) ?_
      refine W_ret ?_
      exact fin0 (.cons (.tmp rfl) .nil) rfl trivial
    ·
      obtain ⟨wd, hwd, hwr, hw8⟩ : ∃ wd : Nat, ((width = wd ∧ wd ≤ 8) ∨ (width < 0 ∧ wd = 0)) ∧ ((width = wd ∧ wd ≤ 8) ∨ ((width < 0 ∨ 8 < width) ∧ wd = 0)) ∧ wd ≤ 8 := by
        rcases hw with h | h
        · exact ⟨width.toNat, .inl (by omega), .inl (by omega), by omega⟩
        · exact ⟨0, .inr ⟨h, rfl⟩, .inr ⟨.inl h, rfl⟩, by omega⟩
      have hfl := length_fixL m wd
      refine W_drawD hC ?_
      refine WD_cons (.plain rfl (oc_move hC (.tmp rfl) rfl rfl)) ?_
      refine WD_cons (.plain rfl (oc_move hC (.tmp rfl) rfl rfl)) ?_
      refine WD_cons (.plain rfl (oc_callN hC (.cons (.tmp rfl) (.cons (.tmp rfl) .nil)) (.cons1 (by first | exact .free (by first | exact inSL_I _ | simp) | exact .row rfl rfl (by first | exact inSL_I _ | simp) | exact .nils | exact .sl1 rfl (by first | exact cut_I | rfl) (by first | exact inSL_I _ | simp)) (.cons1 (.free (by first | exact inSL_I _ | simp)) (.same (by first | exact inSL_I _ | simp)))) (put_c b.length nC b n rfl (by omega) hn) glob_nil (by first | exact inSL_I _ | simp) rfl (by first | exact .inl rfl | exact .inr ⟨by simp, novsL_I _⟩ | exact .inr ⟨by simp, by simp⟩) rfl rfl)) ?_
      refine WD_cons (.plain rfl (ox_b2s (l := (b ++ putV nC)) hC (.tmp rfl) (by first | exact .row rfl | exact .vs | exact .sl rfl | exact .nils) (take_allI (by simp)) (by simp) Try.underlying22 Try.underlying5 Try.underlying9 rfl rfl)) ?_
      refine WD_cons (.plain rfl (oc_move hC (.tmp rfl) rfl rfl)) ?_
      refine WD_cons (.plain rfl (ox_b2s hC (.tmp rfl) (by first | exact .row rfl | exact .vs | exact .sl rfl | exact .nils) (by first | exact take_allI (by first | assumption | rfl | (simp; omega) | omega) | exact take_cutI | exact take_takeI) (by first | assumption | rfl | omega | (simp; omega)) Try.underlying22 Try.underlying5 Try.underlying9 rfl rfl)) ?_
      refine WD_cons (.plain rfl (oc_move hC (.tmp rfl) rfl rfl)) ?_
      refine WD_cons (.plain rfl (oc_callN hC (.cons (.tmp rfl) .nil) (.cons1 (.free (by first | exact inSL_I _ | simp)) (.same (by first | exact inSL_I _ | simp))) (rput_c nC n hn) glob_nil (by first | exact inSL_I _ | simp) rfl (by first | exact .inl rfl | exact .inr ⟨by simp, novsL_I _⟩ | exact .inr ⟨by simp, by simp⟩) rfl rfl)) ?_
      refine WD_cons (.plain rfl (ox_b2s hC (.tmp rfl) (by first | exact .row rfl | exact .vs | exact .sl rfl | exact .nils) (by first | exact take_allI (by first | assumption | rfl | (simp; omega) | omega) | exact take_cutI | exact take_takeI) (by first | assumption | rfl | omega | (simp; omega)) Try.underlying22 Try.underlying5 Try.underlying9 rfl rfl)) ?_
      refine WD_cons (.plain rfl (ox_cat hC (.tmp rfl) (.tmp rfl) (by simp only [bs_size]; omega) (bs_append _ _) rfl rfl)) ?_
      refine WD_cons (.plain rfl (ox_eqs hC (.inl rfl) (.tmp rfl) (.tmp rfl) (r := true) (by simp) rfl rfl)) ?_
      refine WD_cons (.plain rfl (oc_move hC (.tmp rfl) rfl rfl)) ?_
      refine WD_cons (.yes rfl rfl (by decide) rfl (oc_move hC (.tmp rfl) rfl rfl)) ?_
      refine WD_cons (.yes rfl rfl (by decide) rfl (oc_move hC (.tmp rfl) rfl rfl)) ?_
      refine WD_cons (.yes rfl rfl (by decide) rfl (oc_callN hC (.cons (.tmp rfl) (.cons (.tmp rfl) .nil)) (.cons1 (by first | exact .free (by first | exact inSL_I _ | simp) | exact .row rfl rfl (by first | exact inSL_I _ | simp) | exact .nils | exact .sl1 rfl (by first | exact cut_I | rfl) (by first | exact inSL_I _ | simp)) (.cons1 (by first | exact .free (by first | exact inSL_I _ | simp) | exact .row rfl rfl (by first | exact inSL_I _ | simp) | exact .nils | exact .sl1 rfl (by first | exact cut_I | rfl) (by first | exact inSL_I _ | simp)) (.same (by first | exact inSL_I _ | simp)))) (putb_c b.length x.length b x rfl rfl (by omega) (by omega)) glob_nil (by first | exact inSL_I _ | simp) rfl (by first | exact .inl rfl | exact .inr ⟨by simp, novsL_I _⟩ | exact .inr ⟨by simp, by simp⟩) rfl rfl)) ?_
      refine WD_cons (.yes rfl rfl (by decide) rfl (ox_b2s (l := (b ++ putV x.length ++ x)) hC (.tmp rfl) (by first | exact .row rfl | exact .vs | exact .sl rfl | exact .nils) (take_allI (by simp; omega)) (by simp; omega) Try.underlying22 Try.underlying5 Try.underlying9 rfl rfl)) ?_
      refine WD_cons (.yes rfl rfl (by decide) rfl (oc_move hC (.tmp rfl) rfl rfl)) ?_
      refine WD_cons (.yes rfl rfl (by decide) rfl (ox_b2s hC (.tmp rfl) (by first | exact .row rfl | exact .vs | exact .sl rfl | exact .nils) (by first | exact take_allI (by first | assumption | rfl | (simp; omega) | omega) | exact take_cutI | exact take_takeI) (by first | assumption | rfl | omega | (simp; omega)) Try.underlying22 Try.underlying5 Try.underlying9 rfl rfl)) ?_
      refine WD_cons (.yes rfl rfl (by decide) rfl (oc_move hC (.tmp rfl) rfl rfl)) ?_
      refine WD_cons (.yes rfl rfl (by decide) rfl (oc_callN hC (.cons (.tmp rfl) .nil) (.cons1 (by first | exact .free (by first | exact inSL_I _ | simp) | exact .row rfl rfl (by first | exact inSL_I _ | simp) | exact .nils | exact .sl1 rfl (by first | exact cut_I | rfl) (by first | exact inSL_I _ | simp)) (.same (by first | exact inSL_I _ | simp))) (rputb_c x.length x rfl (by omega)) glob_nil (by first | exact inSL_I _ | simp) rfl (by first | exact .inl rfl | exact .inr ⟨by simp, novsL_I _⟩ | exact .inr ⟨by simp, by simp⟩) rfl rfl)) ?_
      refine WD_cons (.yes rfl rfl (by decide) rfl (ox_b2s (l := (putV x.length ++ x)) hC (.tmp rfl) (by first | exact .row rfl | exact .vs | exact .sl rfl | exact .nils) (take_allI (by simp)) (by simp) Try.underlying22 Try.underlying5 Try.underlying9 rfl rfl)) ?_
      refine WD_cons (.yes rfl rfl (by decide) rfl (ox_cat hC (.tmp rfl) (.tmp rfl) (by simp only [bs_size, List.length_append, List.length_nil]; omega) (bs_append _ _) rfl rfl)) ?_
      refine WD_cons (.yes rfl rfl (by decide) rfl (ox_eqs hC (.inl rfl) (.tmp rfl) (.tmp rfl) (r := true) (by rw [List.append_assoc]; simp) rfl rfl)) ?_
      refine WD_cons (.plain rfl (ox_pick hC (.tmp rfl) (.tmp rfl) .cbool (by first | exact pick_t | exact pick_f | rfl) rfl rfl)) ?_
      refine WD_cons (.plain rfl (oc_move hC (.tmp rfl) rfl rfl)) ?_
      refine WD_cons (.yes rfl rfl (by decide) rfl (oc_move hC (.tmp rfl) rfl rfl)) ?_
      refine WD_cons (.yes rfl rfl (by decide) rfl (oc_move hC (.tmp rfl) rfl rfl)) ?_
      refine WD_cons (.yes rfl rfl (by decide) rfl (oc_move hC (.tmp rfl) rfl rfl)) ?_
      refine WD_cons (.yes rfl rfl (by decide) rfl (oc_callN hC (.cons (.tmp rfl) (.cons (.tmp rfl) (.cons (.tmp rfl) .nil))) (.cons1 (by first | exact .free (by first | exact inSL_I _ | simp) | exact .row rfl rfl (by first | exact inSL_I _ | simp) | exact .nils | exact .sl1 rfl (by first | exact cut_I | rfl) (by first | exact inSL_I _ | simp)) (.cons1 (.free (by first | exact inSL_I _ | simp)) (.cons1 (.free (by first | exact inSL_I _ | simp)) (.same (by first | exact inSL_I _ | simp))))) (fix_c b.length m wd b width rfl (by omega) hwd) glob_nil (by first | exact inSL_I _ | simp) rfl (by first | exact .inl rfl | exact .inr ⟨by simp, novsL_I _⟩ | exact .inr ⟨by simp, by simp⟩) rfl rfl)) ?_
      refine WD_cons (.yes rfl rfl (by decide) rfl (ox_b2s (l := (b ++ fixL m wd)) hC (.tmp rfl) (by first | exact .row rfl | exact .vs | exact .sl rfl | exact .nils) (take_allI (by simp [hfl])) (by simp [hfl]) Try.underlying22 Try.underlying5 Try.underlying9 rfl rfl)) ?_
      refine WD_cons (.yes rfl rfl (by decide) rfl (oc_move hC (.tmp rfl) rfl rfl)) ?_
      refine WD_cons (.yes rfl rfl (by decide) rfl (ox_b2s hC (.tmp rfl) (by first | exact .row rfl | exact .vs | exact .sl rfl | exact .nils) (by first | exact take_allI (by first | assumption | rfl | (simp; omega) | omega) | exact take_cutI | exact take_takeI) (by first | assumption | rfl | omega | (simp; omega)) Try.underlying22 Try.underlying5 Try.underlying9 rfl rfl)) ?_
      refine WD_cons (.yes rfl rfl (by decide) rfl (oc_move hC (.tmp rfl) rfl rfl)) ?_
      refine WD_cons (.yes rfl rfl (by decide) rfl (oc_move hC (.tmp rfl) rfl rfl)) ?_
      refine WD_cons (.yes rfl rfl (by decide) rfl (oc_callN hC (.cons (.tmp rfl) (.cons (.tmp rfl) .nil)) (.cons1 (.free (by first | exact inSL_I _ | simp)) (.cons1 (.free (by first | exact inSL_I _ | simp)) (.same (by first | exact inSL_I _ | simp)))) (rfix_c m wd width hm hwr) glob_nil (by first | exact inSL_I _ | simp) rfl (by first | exact .inl rfl | exact .inr ⟨by simp, novsL_I _⟩ | exact .inr ⟨by simp, by simp⟩) rfl rfl)) ?_
      refine WD_cons (.yes rfl rfl (by decide) rfl (ox_b2s hC (.tmp rfl) (by first | exact .row rfl | exact .vs | exact .sl rfl | exact .nils) (by first | exact take_allI (by first | assumption | rfl | (simp; omega) | omega) | exact take_cutI | exact take_takeI) (by first | assumption | rfl | omega | (simp; omega)) Try.underlying22 Try.underlying5 Try.underlying9 rfl rfl)) ?_
      refine WD_cons (.yes rfl rfl (by decide) rfl (ox_cat hC (.tmp rfl) (.tmp rfl) (by simp only [bs_size, List.length_append, List.length_nil]; omega) (bs_append _ _) rfl rfl)) ?_
      refine WD_cons (.yes rfl rfl (by decide) rfl (ox_eqs hC (.inl rfl) (.tmp rfl) (.tmp rfl) (r := true) (by simp) rfl rfl)) ?_
      refine WD_cons (.plain rfl (ox_pick hC (.tmp rfl) (.tmp rfl) .cbool (by first | exact pick_t | exact pick_f | rfl) rfl rfl)) ?_
      refine WD_cons (.plain rfl (oc_move hC (.tmp rfl) rfl rfl)) ?_
      refine WD_cons (.yes rfl rfl (by decide) rfl (oc_move hC (.tmp rfl) rfl rfl)) ?_
      refine WD_cons (.yes rfl rfl (by decide) rfl (ox_b2s hC (.tmp rfl) (by first | exact .row rfl | exact .vs | exact .sl rfl | exact .nils) (by first | exact take_allI (by first | assumption | rfl | (simp; omega) | omega) | exact take_cutI | exact take_takeI) (by first | assumption | rfl | omega | (simp; omega)) Try.underlying22 Try.underlying5 Try.underlying9 rfl rfl)) ?_
      refine WD_cons (.yes rfl rfl (by decide) rfl (oc_move hC (.tmp rfl) rfl rfl)) ?_
      refine WD_cons (.yes rfl rfl (by decide) rfl (ox_b2s hC (.tmp rfl) (by first | exact .row rfl | exact .vs | exact .sl rfl | exact .nils) (by first | exact take_allI (by first | assumption | rfl | (simp; omega) | omega) | exact take_cutI | exact take_takeI) (by first | assumption | rfl | omega | (simp; omega)) Try.underlying22 Try.underlying5 Try.underlying9 rfl rfl)) ?_
      refine WD_cons (.yes rfl rfl (by decide) rfl (ox_eqs hC (.inl rfl) (.tmp rfl) (.tmp rfl) (r := true) (by simp) rfl rfl)) ?_
      refine WD_cons (.plain rfl (ox_pick hC (.tmp rfl) (.tmp rfl) .cbool (by first | exact pick_t | exact pick_f | rfl) rfl rfl)) ?_
      refine WD_cons (.plain rfl (oc_move hC (.tmp rfl) rfl rfl)) ?_
      refine WD_cons (.yes rfl rfl (by decide) rfl (oc_call hC .nil (.same (by first | exact inSL_I _ | simp)) (awake01_c) glob_nil (by first | exact inSL_I _ | simp) (by first | exact .inl rfl | exact .inr (by simp)) rfl rfl)) ?_
      refine WD_cons (.plain rfl (ox_pick hC (.tmp rfl) (.tmp rfl) .cbool (by first | exact pick_t | exact pick_f | rfl) rfl rfl)) ?_
      refine WD_cons (.plain rfl (oc_assign hC (.tmp rfl) rfl rfl)) ?_
      refine WD_nil (by kernel_rfl) ?_
      refine W_ret ?_
      exact fin0 (.cons (.tmp rfl) .nil) rfl trivial
set_option maxRecDepth 20000 in
set_option maxHeartbeats 4000000 in
theorem law_OctetLists (l : List Int) (up : Int) : FnC Try.prog 8 [] [.vs l.length (I .i64 l), .i .i64 up] [] [] (.b true) := by
  have hlf := length_flatP l
  refine FnC.introR (N0 := 0) (T := 81) (E := [(0, .vs l.length (I .i64 l)), (1, .i .i64 up)]) Try.func8 rfl (by decide) mix rfl rfl rfl (by simp) rfl ⟨(by first | exact inSL_I _ | trivial | simp), (by first | exact inSL_I _ | trivial | simp), trivial⟩ (by simp) (by intro S _ _ h; simp) (fun F n0 X w ρ hC hro => ?_)
  refine W_seq ?_
  refine W_region ?_
  refine WL_cons hC.fn (.plain rfl (oc_assign hC .cbool rfl rfl)) ?_
  refine WL_nil ?_
  refine W_seq ?_
  refine W_seq ?_
  rcases (show (100 < l.length) ∨ (l.length ≤ 100) by omega) with h | h
  ·
    refine W_region ?_
    refine WL_cons hC.fn (.plain rfl (oc_move hC (.tmp rfl) rfl rfl)) ?_
    refine WL_cons hC.fn (.plain rfl (ox_len hC (.tmp rfl) (by first | exact .row rfl | exact .vs | exact .sl rfl | exact .nils) Try.underlying57 rfl rfl rfl)) ?_
    refine WL_cons hC.fn (.plain rfl (ox_cmp hC rfl (.tmp rfl) .cint (r := true) (by simp only [cmpI]; exact decide_eq_true (by omega)) rfl rfl)) ?_
    refine WL_nil ?_
    refine W_cond rfl (by decide) (fun _ => ?_) (fun hc => by cases hc)
    refine W_seq ?_
    refine W_region ?_
    refine WL_cons hC.fn (.plain rfl (oc_call hC .nil (.same (by first | exact inSL_I _ | simp)) (awake01_c) glob_nil (by first | exact inSL_I _ | simp) (by first | exact .inl rfl | exact .inr (by simp)) rfl rfl)) ?_
    refine WL_cons hC.fn (.plain rfl (oc_assign hC (.tmp rfl) rfl rfl)) ?_
    refine WL_nil ?_
    refine W_ret ?_
    exact fin0 (.cons (.tmp rfl) .nil) rfl trivial
  ·
    refine W_region ?_
    refine WL_cons hC.fn (.plain rfl (oc_move hC (.tmp rfl) rfl rfl)) ?_
    refine WL_cons hC.fn (.plain rfl (ox_len hC (.tmp rfl) (by first | exact .row rfl | exact .vs | exact .sl rfl | exact .nils) Try.underlying57 rfl rfl rfl)) ?_
    refine WL_cons hC.fn (.plain rfl (ox_cmp hC rfl (.tmp rfl) .cint (r := false) (by simp only [cmpI]; exact decide_eq_false (by omega)) rfl rfl)) ?_
    refine WL_nil ?_
    refine W_cond rfl (by decide) (fun hc => by cases hc) (fun _ => ?_)
    refine W_skip ?_
    refine W_seq ?_
    refine W_region ?_
    have hlp := length_putV (n := l.length) (by omega)
    refine WL_cons hC.fn (.plain rfl (oc_move hC (.tmp rfl) rfl rfl)) ?_
    refine WL_cons hC.fn (.plain rfl (ox_len hC (.tmp rfl) (by first | exact .row rfl | exact .vs | exact .sl rfl | exact .nils) Try.underlying57 rfl rfl rfl)) ?_
    refine WL_cons hC.fn (.plain rfl (oc_callN hC (.cons .cnils (.cons (.tmp rfl) .nil)) (.cons1 (by first | exact .free (by first | exact inSL_I _ | simp) | exact .row rfl rfl (by first | exact inSL_I _ | simp) | exact .nils | exact .sl1 rfl (by first | exact cut_I | rfl) (by first | exact inSL_I _ | simp)) (.cons1 (.free (by first | exact inSL_I _ | simp)) (.same (by first | exact inSL_I _ | simp)))) (putn_c l.length l.length (.inl ⟨rfl, by omega⟩)) glob_nil (by first | exact inSL_I _ | simp) rfl (by first | exact .inl rfl | exact .inr ⟨by simp, novsL_I _⟩ | exact .inr ⟨by simp, by simp⟩) rfl rfl)) ?_
    refine WL_cons hC.fn (.plain rfl (oc_assign hC (.tmp rfl) rfl rfl)) ?_
    refine WL_nil ?_
    refine W_seq ?_
    refine W_seq ?_
    refine W_region ?_
    refine WL_cons hC.fn (.plain rfl (oc_move hC (.tmp rfl) rfl rfl)) ?_
    refine WL_cons hC.fn (.plain rfl (ox_len hC (.tmp rfl) (by first | exact .row rfl | exact .vs | exact .sl rfl | exact .nils) Try.underlying57 rfl rfl rfl)) ?_
    refine WL_cons hC.fn (.plain rfl (oc_move hC .cint rfl rfl)) ?_
    refine WL_nil ?_
    refine W_blk ?_
    refine W_loopW (fun (ζ : Nat) => ⟨1, [(0, .vs l.length (I .i64 l)), (1, .i .i64 up), (5, .row 0), (18, .vs l.length (I .i64 l)), (19, .i .i64 l.length), (20, .i .i64 ζ)], [(0, .row 5 1 ((putV l.length).length + (flatP (l.take ζ)).length) (I .u8 (putV l.length ++ flatP (l.take ζ))))]⟩) (fun ζ => ζ ≤ l.length ∧ Nums (l.take ζ)) (fun ζ => l.length - ζ) (0) ⟨Nat.zero_le _, fun x hx => by cases hx⟩ (weak (fun k => k) (.cons rfl (by first | exact ren_agI | exact ren_vsI | exact ren_free _ _ (by first | exact inSL_I _ | simp)) (by first | exact inSL_I _ | simp) (.cons rfl (by first | rfl | exact congrArg (AV.i _) (by omega) | exact congrArg (AV.i _) (by simp; omega)) trivial (.cons rfl (by first | rfl | simp) (by show _ < _; decide) (.cons rfl (by first | exact ren_agI | exact ren_vsI | exact ren_free _ _ (by first | exact inSL_I _ | simp)) (by first | exact inSL_I _ | simp) (.cons rfl (by first | rfl | exact congrArg (AV.i _) (by omega) | exact congrArg (AV.i _) (by simp; omega)) trivial (.cons rfl rfl trivial .nil)))))) (.cons rfl (renRow (by rw [List.take_zero, flatP_nil]; rfl) (by rw [List.take_zero, flatP_nil, List.append_nil])) rfl (by first | exact inSL_I _ | simp) .nil) rfl rfl rfl) ?_
    intro i hR
    replace hR : i ≤ l.length ∧ Nums (l.take i) := hR
    first | show W _ _ _ ⟨1, [(0, .vs l.length (I .i64 l)), (1, .i .i64 up), (5, .row 0), (18, .vs l.length (I .i64 l)), (19, .i .i64 l.length), (20, .i .i64 i)], [(0, .row 5 1 ((putV l.length).length + (flatP (l.take i)).length) (I .u8 (putV l.length ++ flatP (l.take i))))]⟩ | skip
    refine W_seq ?_
    refine W_region ?_
    refine WL_cons hC.fn (.plain rfl (ox_cmp hC rfl (.tmp rfl) (.tmp rfl) rfl rfl rfl)) ?_
    refine WL_nil ?_
    refine W_seq ?_
    refine W_cond rfl (by decide) (fun hc => ?_) (fun hc => ?_)
    ·
      replace hc := lss_t hc
      have hlt := length_flatP (l.take i)
      rw [List.length_take] at hlt
      refine W_skip ?_
      refine W_seq ?_
      refine W_blk ?_
      refine W_seq ?_
      refine W_region ?_
      refine WL_cons hC.fn (.plain rfl (ox_indexS hC (j := i) (.tmp rfl) (.tmp rfl) idx_57 (by first | rfl | omega | (simp; omega)) (by first | exact Nat.mul_one _ | rfl) (by first | exact .row rfl | exact .sl (Nat.zero_add _) | exact .sl rfl | exact .vs (by first | omega | (simp; omega))) (by first | omega | (simp; omega)) rfl rfl)) ?_
      refine WL_cons hC.fn (.plain rfl (oc_load hC (.tmp rfl) (by first | exact .p rfl | exact .rp) shp_3 (by exact (unit_I (by first | omega | (simp; omega)))) rfl rfl)) ?_
      refine WL_cons hC.fn (.plain rfl (oc_assign hC (.tmp rfl) rfl rfl)) ?_
      refine WL_nil ?_
      refine W_seq ?_
      refine W_seq ?_
      rcases (show l.getD i 0 < 0 ∨ (0 ≤ l.getD i 0 ∧ 1099511627775 < l.getD i 0) ∨ (0 ≤ l.getD i 0 ∧ l.getD i 0 ≤ 1099511627775) by omega) with hx | hx | hx
      ·
        refine W_region ?_
        refine WL_cons hC.fn (.plain rfl (oc_move hC (.tmp rfl) rfl rfl)) ?_
        refine WL_cons hC.fn (.plain rfl (ox_cmp hC rfl (.tmp rfl) .cint (r := true) (by simp only [cmpI]; exact decide_eq_true (by omega)) rfl rfl)) ?_
        refine WL_cons hC.fn (.plain rfl (oc_move hC (.tmp rfl) rfl rfl)) ?_
        refine WL_cons hC.fn (.no (s1 := ⟨_, (27, .tu []) :: _, _⟩) rfl rfl (by decide) rfl (by decide) (fun t ht => by cases ht; exact ⟨blt_lt rfl, blt_lt rfl⟩) (fun t => setE_cons _ _ _ _) rfl rfl) ?_
        refine WL_cons hC.fn (.no (s1 := ⟨_, (28, .tu []) :: _, _⟩) rfl rfl (by decide) rfl (by decide) (fun t ht => by cases ht; exact ⟨blt_lt rfl, blt_lt rfl⟩) (fun t => setE_cons _ _ _ _) rfl rfl) ?_
        refine WL_cons hC.fn (.plain rfl (ox_pick hC (.tmp rfl) .cbool (.tmp rfl) (by first | exact pick_t | exact pick_f | rfl) rfl rfl)) ?_
        refine WL_nil ?_
        refine W_cond rfl (by decide) (fun _ => ?_) (fun hc => by cases hc)
        refine W_seq ?_
        refine W_region ?_
        refine WL_cons hC.fn (.plain rfl (oc_call hC .nil (.same (by first | exact inSL_I _ | simp)) (awake01_c) glob_nil (by first | exact inSL_I _ | simp) (by first | exact .inl rfl | exact .inr (by simp)) rfl rfl)) ?_
        refine WL_cons hC.fn (.plain rfl (oc_assign hC (.tmp rfl) rfl rfl)) ?_
        refine WL_nil ?_
        refine W_ret ?_
        exact fin0 (.cons (.tmp rfl) .nil) rfl trivial
      ·
        refine W_region ?_
        refine WL_cons hC.fn (.plain rfl (oc_move hC (.tmp rfl) rfl rfl)) ?_
        refine WL_cons hC.fn (.plain rfl (ox_cmp hC rfl (.tmp rfl) .cint (r := false) (by simp only [cmpI]; exact decide_eq_false (by omega)) rfl rfl)) ?_
        refine WL_cons hC.fn (.plain rfl (oc_move hC (.tmp rfl) rfl rfl)) ?_
        refine WL_cons hC.fn (.yes rfl rfl (by decide) rfl (oc_move hC (.tmp rfl) rfl rfl)) ?_
        refine WL_cons hC.fn (.yes rfl rfl (by decide) rfl (ox_cmp hC rfl (.tmp rfl) .cint (r := true) (by simp only [cmpI]; exact decide_eq_true (by omega)) rfl rfl)) ?_
        refine WL_cons hC.fn (.plain rfl (ox_pick hC (.tmp rfl) .cbool (.tmp rfl) (by first | exact pick_t | exact pick_f | rfl) rfl rfl)) ?_
        refine WL_nil ?_
        refine W_cond rfl (by decide) (fun _ => ?_) (fun hc => by cases hc)
        refine W_seq ?_
        refine W_region ?_
        refine WL_cons hC.fn (.plain rfl (oc_call hC .nil (.same (by first | exact inSL_I _ | simp)) (awake01_c) glob_nil (by first | exact inSL_I _ | simp) (by first | exact .inl rfl | exact .inr (by simp)) rfl rfl)) ?_
        refine WL_cons hC.fn (.plain rfl (oc_assign hC (.tmp rfl) rfl rfl)) ?_
        refine WL_nil ?_
        refine W_ret ?_
        exact fin0 (.cons (.tmp rfl) .nil) rfl trivial
      ·
        obtain ⟨xn, hxn⟩ := Int.eq_ofNat_of_zero_le hx.1
        have hpx := length_putV (n := xn) (by omega)
        refine W_region ?_
        refine WL_cons hC.fn (.plain rfl (oc_move hC (.tmp rfl) rfl rfl)) ?_
        refine WL_cons hC.fn (.plain rfl (ox_cmp hC rfl (.tmp rfl) .cint (r := false) (by simp only [cmpI]; exact decide_eq_false (by omega)) rfl rfl)) ?_
        refine WL_cons hC.fn (.plain rfl (oc_move hC (.tmp rfl) rfl rfl)) ?_
        refine WL_cons hC.fn (.yes rfl rfl (by decide) rfl (oc_move hC (.tmp rfl) rfl rfl)) ?_
        refine WL_cons hC.fn (.yes rfl rfl (by decide) rfl (ox_cmp hC rfl (.tmp rfl) .cint (r := false) (by simp only [cmpI]; exact decide_eq_false (by omega)) rfl rfl)) ?_
        refine WL_cons hC.fn (.plain rfl (ox_pick hC (.tmp rfl) .cbool (.tmp rfl) (by first | exact pick_t | exact pick_f | rfl) rfl rfl)) ?_
        refine WL_nil ?_
        refine W_cond rfl (by decide) (fun hc => by cases hc) (fun _ => ?_)
        refine W_skip ?_
        refine W_region ?_
        refine WL_cons hC.fn (.plain rfl (oc_move hC (.tmp rfl) rfl rfl)) ?_
        refine WL_cons hC.fn (.plain rfl (oc_move hC (.tmp rfl) rfl rfl)) ?_
        refine WL_cons hC.fn (.plain rfl (oc_callN hC (.cons (.tmp rfl) (.cons (.tmp rfl) .nil)) (.cons1 (by first | exact .free (by first | exact inSL_I _ | simp) | exact .row rfl rfl (by first | exact inSL_I _ | simp) | exact .nils | exact .sl1 rfl (by first | exact cut_I | rfl) (by first | exact inSL_I _ | simp)) (.cons1 (.free (by first | exact inSL_I _ | simp)) (.same (by first | exact inSL_I _ | simp)))) (put_c _ xn _ _ (by simp) (by omega) (.inl ⟨hxn, by omega⟩)) glob_nil (by first | exact inSL_I _ | simp) rfl (by first | exact .inl rfl | exact .inr ⟨by simp, novsL_I _⟩ | exact .inr ⟨by simp, by simp⟩) rfl rfl)) ?_
        refine WL_cons hC.fn (.plain rfl (oc_assign hC (.tmp rfl) rfl rfl)) ?_
        refine WL_nil ?_
        refine W_region ?_
        refine WL_cons hC.fn (.plain rfl (oc_bin hC rfl (.tmp rfl) .cint (by first | exact i64_add (by omega) | rfl) rfl rfl)) ?_
        refine WL_cons hC.fn (.plain rfl (oc_move hC (.tmp rfl) rfl rfl)) ?_
        refine WL_nil ?_
        exact ⟨(i + 1), ⟨by omega, hR.2.succ (by omega) hx⟩, (weak (fun k => bif Nat.beq k 0 then 1 else k) (.cons rfl (by first | exact ren_agI | exact ren_vsI | exact ren_free _ _ (by first | exact inSL_I _ | simp)) (by first | exact inSL_I _ | simp) (.cons rfl (by first | rfl | exact congrArg (AV.i _) (by omega) | exact congrArg (AV.i _) (by simp; omega)) trivial (.cons rfl (by first | rfl | simp) (by show _ < _; decide) (.cons rfl (by first | exact ren_agI | exact ren_vsI | exact ren_free _ _ (by first | exact inSL_I _ | simp)) (by first | exact inSL_I _ | simp) (.cons rfl (by first | rfl | exact congrArg (AV.i _) (by omega) | exact congrArg (AV.i _) (by simp; omega)) trivial (.cons rfl (by first | rfl | exact congrArg (AV.i _) (by omega) | exact congrArg (AV.i _) (by simp; omega)) trivial .nil)))))) (.cons rfl (renRow (by rw [← flatP_succ (show i < l.length by omega), List.length_append, hxn, Int.toNat_natCast]; omega) (by rw [← flatP_succ (show i < l.length by omega), hxn, Int.toNat_natCast, List.append_assoc])) rfl (by first | exact inSL_I _ | simp) .nil) rfl rfl rfl), (by omega)⟩
    ·
      replace hc := lss_f hc
      obtain rfl : i = l.length := by omega
      have hnl : Nums l := by have := hR.2; rwa [List.take_length] at this
      rw [List.take_length]
      have hb8 : B8 (putV l.length ++ flatP l) := B8_append (B8_putV (by omega)) (B8_flatP hnl)
      rw [show (putV l.length).length + (flatP l).length = (putV l.length ++ flatP l).length by simp]
      refine W_exit ?_
      refine W_seq ?_
      refine W_region ?_
      refine WL_weak (weak_frz (t := 5) (b := (putV l.length ++ flatP l)) rfl rfl (.here rfl) rfl) ?_
      refine WL_cons hC.fn (.plain rfl (oc_move hC (.tmp rfl) rfl rfl)) ?_
      refine WL_cons hC.fn (.plain rfl (oc_callG (τ := fun k => bif Nat.beq k 0 then 1 else k) (N' := 2) hC .func (.cons (.tmp rfl) .nil) (.v1 (by first | exact .free (by first | exact inSL_I _ | simp) | exact .row rfl rfl (by first | exact inSL_I _ | simp) | exact .nils | exact .sl1 rfl (by first | exact cut_I | rfl) (by first | exact inSL_I _ | simp)) .end) (new_c _ (putV l.length ++ flatP l) rfl (by rw [List.length_append]; omega)) glob_nil mr_nil (mr_cons (by first | exact ren_blkI | exact ren_rowI | exact Blk.ren_free (by simp) _ | rfl) rfl mr_nil) rfl rd_nil rfl rfl rfl rfl (by first | exact .inl rfl | exact .inr ⟨by simp, (nv_cons (by first | exact novsL_I _ | simp) nv_nil)⟩) rfl (dst_ok rfl rfl) (fun t => setE_cons _ _ _ _))) ?_
      refine WL_cons hC.fn (.plain rfl (oc_assign hC (.tmp rfl) rfl rfl)) ?_
      refine WL_nil ?_
      refine W_seq ?_
      rcases (show up < l.length ∨ (l.length : Int) ≤ up by omega) with hup | hup
      ·
        refine W_region ?_
        refine WL_cons hC.fn (.plain rfl (oc_move hC (.tmp rfl) rfl rfl)) ?_
        refine WL_cons hC.fn (.plain rfl (oc_move hC (.tmp rfl) rfl rfl)) ?_
        refine WL_cons hC.fn (.plain rfl (oc_callG (τ := fun k => bif Nat.beq k 0 then 1 else k) (N' := 2) hC .func (.cons (.tmp rfl) (.cons (.tmp rfl) (.cons .func .nil))) (.own (by first | rfl | simp) (.v1 (.free (by first | exact inSL_I _ | simp)) (.v1 (.free (by first | exact inSL_I _ | simp)) .end))) (listrange_c (putV l.length ++ flatP l) (flatP l) 3 hb8 (by simp; omega) up 30 (.go rfl (numR_great _ (by omega) hup))) glob_nil (mr_cons (by first | exact ren_blkI | exact ren_rowI | exact Blk.ren_free (by simp) _ | rfl) rfl mr_nil) (mr_cons (by first | exact ren_blkI | exact ren_rowI | exact Blk.ren_free (by simp) _ | rfl) rfl mr_nil) rfl (rd_cons rfl rd_nil) rfl rfl rfl rfl (by first | exact .inl rfl | exact .inr ⟨by simp, (nv_cons (by first | exact novsL_I _ | simp) nv_nil)⟩) rfl (dst_ok rfl rfl) (fun t => setE_cons _ _ _ _))) ?_
        refine WL_cons hC.fn (.plain rfl (oc_assign hC (.tmp rfl) rfl rfl)) ?_
        refine WL_nil ?_
        refine W_seq ?_
        refine W_seq ?_
        refine W_region ?_
        refine WL_cons hC.fn (.plain rfl (oc_move hC (.tmp rfl) rfl rfl)) ?_
        refine WL_cons hC.fn (.plain rfl (ox_len hC (.tmp rfl) (by first | exact .row rfl | exact .vs | exact .sl rfl | exact .nils) Try.underlying57 rfl rfl rfl)) ?_
        refine WL_cons hC.fn (.plain rfl (oc_move hC (.tmp rfl) rfl rfl)) ?_
        refine WL_cons hC.fn (.plain rfl (ox_cmp hC rfl (.tmp rfl) (.tmp rfl) (r := true) (by simp only [cmpI]; exact decide_eq_true (by omega)) rfl rfl)) ?_
        refine WL_nil ?_
        refine W_cond rfl (by decide) (fun _ => ?_) (fun hc => by cases hc)
        refine W_seq ?_
        refine W_region ?_
        refine WL_cons hC.fn (.plain rfl (oc_move hC (.tmp rfl) rfl rfl)) ?_
        refine WL_cons hC.fn (.plain rfl (ox_len hC (.tmp rfl) (by first | exact .row rfl | exact .vs | exact .sl rfl | exact .nils) Try.underlying57 rfl rfl rfl)) ?_
        refine WL_cons hC.fn (.plain rfl (ox_cmp hC rfl (.tmp rfl) .cint (r := true) rfl rfl rfl)) ?_
        refine WL_cons hC.fn (.plain rfl (oc_move hC (.tmp rfl) rfl rfl)) ?_
        refine WL_cons hC.fn (.yes rfl rfl (by decide) rfl (oc_move hC (.tmp rfl) rfl rfl)) ?_
        refine WL_cons hC.fn (.yes rfl rfl (by decide) rfl (oc_callG (τ := fun k => bif Nat.beq k 0 then 1 else k) (N' := 2) hC .func (.cons (.tmp rfl) .nil) (.own (by first | rfl | simp) .end) (err_c (flatP l).length (flatP l) 3 rfl (B8_flatP hnl) (by omega)) glob_nil (mr_cons (by first | exact ren_blkI | exact ren_rowI | exact Blk.ren_free (by simp) _ | rfl) rfl mr_nil) (mr_cons (by first | exact ren_blkI | exact ren_rowI | exact Blk.ren_free (by simp) _ | rfl) rfl mr_nil) rfl (rd_cons rfl rd_nil) rfl rfl rfl rfl (by first | exact .inl rfl | exact .inr ⟨by simp, (nv_cons (by first | exact novsL_I _ | simp) nv_nil)⟩) rfl (dst_ok rfl rfl) (fun t => setE_cons _ _ _ _))) ?_
        refine WL_cons hC.fn (.yes rfl rfl (by decide) rfl (ox_cmp hC rfl (.tmp rfl) .cint (r := true) rfl rfl rfl)) ?_
        refine WL_cons hC.fn (.plain rfl (ox_pick hC (.tmp rfl) (.tmp rfl) .cbool (by first | exact pick_t | exact pick_f | rfl) rfl rfl)) ?_
        refine WL_cons hC.fn (.plain rfl (oc_move hC (.tmp rfl) rfl rfl)) ?_
        refine WL_cons hC.fn (.yes rfl rfl (by decide) rfl (oc_call hC .nil (.same (by first | exact inSL_I _ | simp)) (awake01_c) glob_nil (by first | exact inSL_I _ | simp) (by first | exact .inl rfl | exact .inr (by simp)) rfl rfl)) ?_
        refine WL_cons hC.fn (.plain rfl (ox_pick hC (.tmp rfl) (.tmp rfl) .cbool (by first | exact pick_t | exact pick_f | rfl) rfl rfl)) ?_
        refine WL_cons hC.fn (.plain rfl (oc_assign hC (.tmp rfl) rfl rfl)) ?_
        refine WL_nil ?_
        refine W_ret ?_
        exact fin0 (.cons (.tmp rfl) .nil) rfl trivial
      ·
        refine W_region ?_
        refine WL_cons hC.fn (.plain rfl (oc_move hC (.tmp rfl) rfl rfl)) ?_
        refine WL_cons hC.fn (.plain rfl (oc_move hC (.tmp rfl) rfl rfl)) ?_
        refine WL_cons hC.fn (.plain rfl (oc_callG (τ := fun k => bif Nat.beq k 1 then 2 else bif Nat.beq k 0 then 1 else k) (N' := 3) hC .func (.cons (.tmp rfl) (.cons (.tmp rfl) (.cons .func .nil))) (.own (by first | rfl | simp) (.v1 (.free (by first | exact inSL_I _ | simp)) (.v1 (.free (by first | exact inSL_I _ | simp)) .end))) (list_c l.length l rfl (by omega) hnl up hup) glob_nil (mr_cons (by first | exact ren_blkI | exact ren_rowI | exact Blk.ren_free (by simp) _ | rfl) rfl mr_nil) (mr_cons (by first | exact ren_blkI | exact ren_rowI | exact Blk.ren_free (by simp) _ | rfl) rfl (mr_cons (by first | exact ren_blkI | exact ren_rowI | exact Blk.ren_free (by simp) _ | rfl) rfl mr_nil)) rfl (rd_cons rfl rd_nil) rfl rfl rfl rfl (by first | exact .inl rfl | exact .inr ⟨by simp, (nv_cons (by first | exact novsL_I _ | simp) (nv_cons (by first | exact novsL_I _ | simp) nv_nil))⟩) rfl (dst_ok rfl rfl) (fun t => setE_cons _ _ _ _))) ?_
        refine WL_cons hC.fn (.plain rfl (oc_assign hC (.tmp rfl) rfl rfl)) ?_
        refine WL_nil ?_
        refine W_seq ?_
        refine W_seq ?_
        refine W_region ?_
        refine WL_cons hC.fn (.plain rfl (oc_move hC (.tmp rfl) rfl rfl)) ?_
        refine WL_cons hC.fn (.plain rfl (ox_len hC (.tmp rfl) (by first | exact .row rfl | exact .vs | exact .sl rfl | exact .nils) Try.underlying57 rfl rfl rfl)) ?_
        refine WL_cons hC.fn (.plain rfl (oc_move hC (.tmp rfl) rfl rfl)) ?_
        refine WL_cons hC.fn (.plain rfl (ox_cmp hC rfl (.tmp rfl) (.tmp rfl) (r := false) (by simp only [cmpI]; exact decide_eq_false (by omega)) rfl rfl)) ?_
        refine WL_nil ?_
        refine W_cond rfl (by decide) (fun hc => by cases hc) (fun _ => ?_)
        refine W_skip ?_
        refine W_seq ?_
        refine W_seq ?_
        refine W_region ?_
        refine WL_cons hC.fn (.plain rfl (oc_move hC (.tmp rfl) rfl rfl)) ?_
        refine WL_cons hC.fn (.plain rfl (ox_len hC (.tmp rfl) (by first | exact .row rfl | exact .vs | exact .sl rfl | exact .nils) Try.underlying57 (r := (l.length : Int)) rfl rfl rfl)) ?_
        refine WL_cons hC.fn (.plain rfl (oc_move hC (.tmp rfl) rfl rfl)) ?_
        refine WL_cons hC.fn (.plain rfl (ox_len hC (.tmp rfl) (by first | exact .row rfl | exact .vs | exact .sl rfl | exact .nils) Try.underlying57 rfl rfl rfl)) ?_
        refine WL_cons hC.fn (.plain rfl (ox_cmp hC rfl (.tmp rfl) (.tmp rfl) (r := false) (by simp [cmpI]) rfl rfl)) ?_
        refine WL_cons hC.fn (.plain rfl (oc_move hC (.tmp rfl) rfl rfl)) ?_
        refine WL_cons hC.fn (.yes rfl rfl (by decide) rfl (oc_move hC (.tmp rfl) rfl rfl)) ?_
        refine WL_cons hC.fn (.yes rfl rfl (by decide) rfl (oc_callG (τ := fun k => bif Nat.beq k 0 then 1 else k) (N' := 3) hC .func (.cons (.tmp rfl) .nil) (.own (by first | rfl | simp) .end) (end_c 0 [] 0 rfl (by intro x hx; cases hx) (by decide) 0 (.inr (.inl ⟨rfl, rfl, rfl⟩))) glob_nil (mr_cons (by first | exact ren_blkI | exact ren_rowI | exact Blk.ren_free (by simp) _ | rfl) rfl mr_nil) (mr_cons (by first | exact ren_blkI | exact ren_rowI | exact Blk.ren_free (by simp) _ | rfl) rfl mr_nil) rfl (rd_cons rfl rd_nil) rfl rfl rfl rfl (by first | exact .inl rfl | exact .inr ⟨by simp, (nv_cons (by first | exact novsL_I _ | simp) nv_nil)⟩) rfl (dst_ok rfl rfl) (fun t => setE_cons _ _ _ _))) ?_
        refine WL_cons hC.fn (.yes rfl rfl (by decide) rfl (ox_cmp hC rfl (.tmp rfl) .cint (r := false) rfl rfl rfl)) ?_
        refine WL_cons hC.fn (.plain rfl (ox_pick hC (.tmp rfl) .cbool (.tmp rfl) (by first | exact pick_t | exact pick_f | rfl) rfl rfl)) ?_
        refine WL_nil ?_
        refine W_cond rfl (by decide) (fun hc => by cases hc) (fun _ => ?_)
        refine W_skip ?_
        refine W_seq ?_
        refine W_seq ?_
        refine W_region ?_
        refine WL_cons hC.fn (.plain rfl (oc_move hC (.tmp rfl) rfl rfl)) ?_
        refine WL_cons hC.fn (.plain rfl (ox_len hC (.tmp rfl) (by first | exact .row rfl | exact .vs | exact .sl rfl | exact .nils) Try.underlying57 rfl rfl rfl)) ?_
        refine WL_cons hC.fn (.plain rfl (oc_move hC .cint rfl rfl)) ?_
        refine WL_nil ?_
        refine W_blk ?_
        refine W_loopW (fun (ζ : Nat) => ⟨3, [(0, .vs l.length (I .i64 l)), (9, .row 2), (66, .i .i64 l.length), (67, .i .i64 ζ)], [(1, .blk 62 [.vs 0 (I .u8 []), .i .i64 0]), (2, .row 3 1 l.length (I .i64 l))]⟩) (fun ζ => ζ ≤ l.length) (fun ζ => l.length - ζ) (0) (Nat.zero_le _) (weak (fun k => k) (.cons rfl (by first | exact ren_agI | exact ren_vsI | exact ren_free _ _ (by first | exact inSL_I _ | simp)) (by first | exact inSL_I _ | simp) (.cons rfl (by first | rfl | simp) (by show _ < _; decide) (.cons rfl (by first | rfl | exact congrArg (AV.i _) (by omega) | exact congrArg (AV.i _) (by simp; omega)) trivial (.cons rfl rfl trivial .nil)))) (.cons rfl (Blk.ren_free (by simp) _) rfl (by first | exact inSL_I _ | simp) (.cons rfl (by first | exact ren_blkI | exact ren_rowI | exact Blk.ren_free (by simp) _ | rfl) rfl (by first | exact inSL_I _ | simp) .nil)) rfl rfl rfl) ?_
        intro j hR
        replace hR : j ≤ l.length := hR
        first | show W _ _ _ ⟨3, [(0, .vs l.length (I .i64 l)), (9, .row 2), (66, .i .i64 l.length), (67, .i .i64 j)], [(1, .blk 62 [.vs 0 (I .u8 []), .i .i64 0]), (2, .row 3 1 l.length (I .i64 l))]⟩ | skip
        refine W_seq ?_
        refine W_region ?_
        refine WL_cons hC.fn (.plain rfl (ox_cmp hC rfl (.tmp rfl) (.tmp rfl) rfl rfl rfl)) ?_
        refine WL_nil ?_
        refine W_seq ?_
        refine W_cond rfl (by decide) (fun hc => ?_) (fun hc => ?_)
        ·
          replace hc := lss_t hc
          refine W_skip ?_
          refine W_seq ?_
          refine W_blk ?_
          refine W_seq ?_
          refine W_region ?_
          refine WL_cons hC.fn (.plain rfl (oc_move hC (.tmp rfl) rfl rfl)) ?_
          refine WL_cons hC.fn (.plain rfl (oc_assign hC (.tmp rfl) rfl rfl)) ?_
          refine WL_nil ?_
          refine W_seq ?_
          refine W_drawD hC ?_
          refine WD_cons (.plain rfl (oc_move hC (.tmp rfl) rfl rfl)) ?_
          refine WD_cons (.plain rfl (oc_move hC (.tmp rfl) rfl rfl)) ?_
          refine WD_cons (.plain rfl (ox_indexS hC (j := j) (.tmp rfl) (.tmp rfl) idx_57 (by first | rfl | omega | (simp; omega)) (by first | exact Nat.mul_one _ | rfl) (by first | exact .row rfl | exact .sl (Nat.zero_add _) | exact .sl rfl | exact .vs (by first | omega | (simp; omega))) (by first | omega | (simp; omega)) rfl rfl)) ?_
          refine WD_cons (.plain rfl (oc_load hC (.tmp rfl) (by first | exact .p rfl | exact .rp) shp_3 (by exact (unit_I (by first | omega | (simp; omega)))) rfl rfl)) ?_
          refine WD_cons (.plain rfl (oc_move hC (.tmp rfl) rfl rfl)) ?_
          refine WD_cons (.plain rfl (oc_move hC (.tmp rfl) rfl rfl)) ?_
          refine WD_cons (.plain rfl (ox_indexS hC (j := j) (.tmp rfl) (.tmp rfl) idx_57 (by first | rfl | omega | (simp; omega)) (by first | exact Nat.mul_one _ | rfl) (by first | exact .row rfl | exact .sl (Nat.zero_add _) | exact .sl rfl | exact .vs (by first | omega | (simp; omega))) (by first | omega | (simp; omega)) rfl rfl)) ?_
          refine WD_cons (.plain rfl (oc_load hC (.tmp rfl) (by first | exact .p rfl | exact .rp) shp_3 (by exact (unit_I (by first | omega | (simp; omega)))) rfl rfl)) ?_
          refine WD_cons (.plain rfl (ox_cmp hC rfl (.tmp rfl) (.tmp rfl) (r := false) (by simp [cmpI]) rfl rfl)) ?_
          refine WD_nil (by kernel_rfl) ?_
          refine W_cond rfl (by decide) (fun hc => by cases hc) (fun _ => ?_)
          refine W_skip ?_
          refine W_region ?_
          refine WL_cons hC.fn (.plain rfl (oc_bin hC rfl (.tmp rfl) .cint (by first | exact i64_add (by omega) | rfl) rfl rfl)) ?_
          refine WL_cons hC.fn (.plain rfl (oc_move hC (.tmp rfl) rfl rfl)) ?_
          refine WL_nil ?_
          exact ⟨(j + 1), (by omega), (weak (fun k => k) (.cons rfl (by first | exact ren_agI | exact ren_vsI | exact ren_free _ _ (by first | exact inSL_I _ | simp)) (by first | exact inSL_I _ | simp) (.cons rfl (by first | rfl | simp) (by show _ < _; decide) (.cons rfl (by first | rfl | exact congrArg (AV.i _) (by omega) | exact congrArg (AV.i _) (by simp; omega)) trivial (.cons rfl (by first | rfl | exact congrArg (AV.i _) (by omega) | exact congrArg (AV.i _) (by simp; omega)) trivial .nil)))) (.cons rfl (Blk.ren_free (by simp) _) rfl (by first | exact inSL_I _ | simp) (.cons rfl (by first | exact ren_blkI | exact ren_rowI | exact Blk.ren_free (by simp) _ | rfl) rfl (by first | exact inSL_I _ | simp) .nil)) rfl rfl rfl), (by omega)⟩
        ·
          replace hc := lss_f hc
          refine W_exit ?_
          refine W_seq ?_
          refine W_region ?_
          refine WL_cons hC.fn (.plain rfl (oc_call hC .nil (.same (by first | exact inSL_I _ | simp)) (awake01_c) glob_nil (by first | exact inSL_I _ | simp) (by first | exact .inl rfl | exact .inr (by simp)) rfl rfl)) ?_
          refine WL_cons hC.fn (.plain rfl (oc_assign hC (.tmp rfl) rfl rfl)) ?_
          refine WL_nil ?_
          refine W_ret ?_
          exact fin0 (.cons (.tmp rfl) .nil) rfl trivial
set_option maxRecDepth 20000 in
set_option maxHeartbeats 4000000 in
theorem law_OctetReads (b : List Int) (hb8 : B8 b) (D : List (Int × Int)) : FnC Try.prog 7 [] [.vs b.length (I .u8 b), .vs D.length (prs D)] [] [] (.b true) := by
  refine FnC.introR (N0 := 0) (T := 130) (E := [(0, .vs b.length (I .u8 b)), (1, .vs D.length (prs D))]) Try.func7 rfl (by decide) mix rfl rfl rfl (by simp) rfl ⟨(by first | exact inSL_I _ | trivial | simp), (by first | exact inSL_I _ | trivial | simp), trivial⟩ (by simp) (by intro S _ _ h; simp) (fun F n0 X w ρ hC hro => ?_)
  refine W_seq ?_
  refine W_region ?_
  refine WL_cons hC.fn (.plain rfl (oc_assign hC .cbool rfl rfl)) ?_
  refine WL_nil ?_
  refine W_seq ?_
  refine W_seq ?_
  rcases (show (2000 < b.length) ∨ (b.length ≤ 2000 ∧ 40 < D.length) ∨ (b.length ≤ 2000 ∧ D.length ≤ 40) by omega) with h | h | h
  ·
    refine W_region ?_
    refine WL_cons hC.fn (.plain rfl (oc_move hC (.tmp rfl) rfl rfl)) ?_
    refine WL_cons hC.fn (.plain rfl (ox_len hC (.tmp rfl) (by first | exact .row rfl | exact .vs | exact .sl rfl | exact .nils) Try.underlying22 rfl rfl rfl)) ?_
    refine WL_cons hC.fn (.plain rfl (ox_cmp hC rfl (.tmp rfl) .cint (r := true) (by simp only [cmpI]; exact decide_eq_true (by omega)) rfl rfl)) ?_
    refine WL_cons hC.fn (.plain rfl (oc_move hC (.tmp rfl) rfl rfl)) ?_
    refine WL_cons hC.fn (.no (s1 := ⟨_, (21, .tu []) :: _, _⟩) rfl rfl (by decide) rfl (by decide) (fun t ht => by cases ht; exact ⟨blt_lt rfl, blt_lt rfl⟩) (fun t => setE_cons _ _ _ _) rfl rfl) ?_
    refine WL_cons hC.fn (.no (s1 := ⟨_, (22, .tu []) :: _, _⟩) rfl rfl (by decide) rfl (by decide) (fun t ht => by cases ht; exact ⟨blt_lt rfl, blt_lt rfl⟩) (fun t => setE_cons _ _ _ _) rfl rfl) ?_
    refine WL_cons hC.fn (.no (s1 := ⟨_, (23, .tu []) :: _, _⟩) rfl rfl (by decide) rfl (by decide) (fun t ht => by cases ht; exact ⟨blt_lt rfl, blt_lt rfl⟩) (fun t => setE_cons _ _ _ _) rfl rfl) ?_
    refine WL_cons hC.fn (.plain rfl (ox_pick hC (.tmp rfl) .cbool (.tmp rfl) (by first | exact pick_t | exact pick_f | rfl) rfl rfl)) ?_
    refine WL_nil ?_
    refine W_cond rfl (by decide) (fun _ => ?_) (fun hc => by cases hc)
    refine W_seq ?_
    refine W_region ?_
    refine WL_cons hC.fn (.plain rfl (oc_call hC .nil (.same (by first | exact inSL_I _ | simp)) (awake01_c) glob_nil (by first | exact inSL_I _ | simp) (by first | exact .inl rfl | exact .inr (by simp)) rfl rfl)) ?_
    refine WL_cons hC.fn (.plain rfl (oc_assign hC (.tmp rfl) rfl rfl)) ?_
    refine WL_nil ?_
    refine W_ret ?_
    exact fin0 (.cons (.tmp rfl) .nil) rfl trivial
  ·
    refine W_region ?_
    refine WL_cons hC.fn (.plain rfl (oc_move hC (.tmp rfl) rfl rfl)) ?_
    refine WL_cons hC.fn (.plain rfl (ox_len hC (.tmp rfl) (by first | exact .row rfl | exact .vs | exact .sl rfl | exact .nils) Try.underlying22 rfl rfl rfl)) ?_
    refine WL_cons hC.fn (.plain rfl (ox_cmp hC rfl (.tmp rfl) .cint (r := false) (by simp only [cmpI]; exact decide_eq_false (by omega)) rfl rfl)) ?_
    refine WL_cons hC.fn (.plain rfl (oc_move hC (.tmp rfl) rfl rfl)) ?_
    refine WL_cons hC.fn (.yes rfl rfl (by decide) rfl (oc_move hC (.tmp rfl) rfl rfl)) ?_
    refine WL_cons hC.fn (.yes rfl rfl (by decide) rfl (ox_len hC (.tmp rfl) (by first | exact .row rfl | exact .vs | exact .sl rfl | exact .nils) Try.underlying43 rfl rfl rfl)) ?_
    refine WL_cons hC.fn (.yes rfl rfl (by decide) rfl (ox_cmp hC rfl (.tmp rfl) .cint (r := true) (by simp only [cmpI]; exact decide_eq_true (by omega)) rfl rfl)) ?_
    refine WL_cons hC.fn (.plain rfl (ox_pick hC (.tmp rfl) .cbool (.tmp rfl) (by first | exact pick_t | exact pick_f | rfl) rfl rfl)) ?_
    refine WL_nil ?_
    refine W_cond rfl (by decide) (fun _ => ?_) (fun hc => by cases hc)
    refine W_seq ?_
    refine W_region ?_
    refine WL_cons hC.fn (.plain rfl (oc_call hC .nil (.same (by first | exact inSL_I _ | simp)) (awake01_c) glob_nil (by first | exact inSL_I _ | simp) (by first | exact .inl rfl | exact .inr (by simp)) rfl rfl)) ?_
    refine WL_cons hC.fn (.plain rfl (oc_assign hC (.tmp rfl) rfl rfl)) ?_
    refine WL_nil ?_
    refine W_ret ?_
    exact fin0 (.cons (.tmp rfl) .nil) rfl trivial
  ·
    refine W_region ?_
    refine WL_cons hC.fn (.plain rfl (oc_move hC (.tmp rfl) rfl rfl)) ?_
    refine WL_cons hC.fn (.plain rfl (ox_len hC (.tmp rfl) (by first | exact .row rfl | exact .vs | exact .sl rfl | exact .nils) Try.underlying22 rfl rfl rfl)) ?_
    refine WL_cons hC.fn (.plain rfl (ox_cmp hC rfl (.tmp rfl) .cint (r := false) (by simp only [cmpI]; exact decide_eq_false (by omega)) rfl rfl)) ?_
    refine WL_cons hC.fn (.plain rfl (oc_move hC (.tmp rfl) rfl rfl)) ?_
    refine WL_cons hC.fn (.yes rfl rfl (by decide) rfl (oc_move hC (.tmp rfl) rfl rfl)) ?_
    refine WL_cons hC.fn (.yes rfl rfl (by decide) rfl (ox_len hC (.tmp rfl) (by first | exact .row rfl | exact .vs | exact .sl rfl | exact .nils) Try.underlying43 rfl rfl rfl)) ?_
    refine WL_cons hC.fn (.yes rfl rfl (by decide) rfl (ox_cmp hC rfl (.tmp rfl) .cint (r := false) (by simp only [cmpI]; exact decide_eq_false (by omega)) rfl rfl)) ?_
    refine WL_cons hC.fn (.plain rfl (ox_pick hC (.tmp rfl) .cbool (.tmp rfl) (by first | exact pick_t | exact pick_f | rfl) rfl rfl)) ?_
    refine WL_nil ?_
    refine W_cond rfl (by decide) (fun hc => by cases hc) (fun _ => ?_)
    refine W_skip ?_
    refine W_seq ?_
    refine W_region ?_
    refine WL_cons hC.fn (.plain rfl (oc_move hC (.tmp rfl) rfl rfl)) ?_
    refine WL_cons hC.fn (.plain rfl (oc_callG (τ := fun k => bif Nat.beq k 0 then 0 else k) (N' := 1) hC .func (.cons (.tmp rfl) .nil) (.v1 (by first | exact .free (by first | exact inSL_I _ | simp) | exact .row rfl rfl (by first | exact inSL_I _ | simp) | exact .nils | exact .sl1 rfl (by first | exact cut_I | rfl) (by first | exact inSL_I _ | simp)) .end) (new_c b.length b rfl (by omega)) glob_nil mr_nil (mr_cons (by first | exact ren_blkI | exact ren_rowI | exact Blk.ren_free (by simp) _ | rfl) rfl mr_nil) rfl rd_nil rfl rfl rfl rfl (by first | exact .inl rfl | exact .inr ⟨by simp, (nv_cons (by first | exact novsL_I _ | simp) nv_nil)⟩) rfl (dst_ok rfl rfl) (fun t => setE_cons _ _ _ _))) ?_
    refine WL_cons hC.fn (.plain rfl (oc_assign hC (.tmp rfl) rfl rfl)) ?_
    refine WL_nil ?_
    refine W_seq ?_
    refine W_region ?_
    refine WL_cons hC.fn (.plain rfl (oc_move hC (.tmp rfl) rfl rfl)) ?_
    refine WL_cons hC.fn (.plain rfl (ox_build (out' := [.vs b.length (I .u8 b), .i .i64 0]) hC (.cons (.tmp rfl) .nil) zero_45 bld_45 rfl rfl rfl rfl)) ?_
    refine WL_cons hC.fn (.plain rfl (ox_alloc hC zero_45 rfl rfl rfl)) ?_
    refine WL_cons hC.fn (.plain rfl (ox_store (bk' := .blk 45 [.vs b.length (I .u8 b), .i .i64 0]) hC (.tmp rfl) (.tmp rfl) rfl shp_45 (by first | rfl | exact flat_agI) rfl (by first | exact Nat.le_refl _ | exact Nat.le_of_ble_eq_true rfl | decide | (simp <;> fail) | (simp; omega)) rfl (by first | exact .here | exact .there (.here) rfl | exact .there (.there (.here) rfl) rfl | exact .there (.there (.there (.here) rfl) rfl) rfl | exact .there (.there (.there (.there (.here) rfl) rfl) rfl) rfl | exact .there (.there (.there (.there (.there (.here) rfl) rfl) rfl) rfl) rfl | exact .there (.there (.there (.there (.there (.there (.here) rfl) rfl) rfl) rfl) rfl) rfl | exact .there (.there (.there (.there (.there (.there (.there (.here) rfl) rfl) rfl) rfl) rfl) rfl) rfl | exact .there (.there (.there (.there (.there (.there (.there (.there (.here) rfl) rfl) rfl) rfl) rfl) rfl) rfl) rfl | exact .there (.there (.there (.there (.there (.there (.there (.there (.there (.here) rfl) rfl) rfl) rfl) rfl) rfl) rfl) rfl) rfl) rfl)) ?_
    refine WL_nil ?_
    refine W_seq ?_
    refine W_seq ?_
    refine W_region ?_
    refine WL_cons hC.fn (.plain rfl (oc_move hC (.tmp rfl) rfl rfl)) ?_
    refine WL_cons hC.fn (.plain rfl (ox_len hC (.tmp rfl) (by first | exact .row rfl | exact .vs | exact .sl rfl | exact .nils) Try.underlying43 rfl rfl rfl)) ?_
    refine WL_cons hC.fn (.plain rfl (oc_move hC .cint rfl rfl)) ?_
    refine WL_nil ?_
    refine W_blk ?_
    refine W_loopW (fun (ζ : List Int × List Int × Int × Nat) => ⟨2, [(5, .p 0 0), (6, .p 1 0), (30, .vs D.length (prs D)), (31, .i .i64 D.length), (32, .i .i64 ζ.2.2.2)], [(0, .blk 62 [.vs ζ.1.length (I .u8 ζ.1), .i .i64 ζ.2.2.1]), (1, .blk 45 [.vs ζ.2.1.length (I .u8 ζ.2.1), .i .i64 ζ.2.2.1])]⟩) (fun ζ => ζ.2.2.2 ≤ D.length ∧ B8 ζ.1 ∧ B8 ζ.2.1 ∧ ζ.1.length ≤ 2000 ∧ ζ.2.1.length ≤ 2000 ∧ (ζ.2.2.1 = 0 → ζ.1 = ζ.2.1)) (fun ζ => D.length - ζ.2.2.2) (b, b, 0, 0) ⟨Nat.zero_le _, hb8, hb8, by show b.length ≤ 2000; omega, by show b.length ≤ 2000; omega, fun _ => rfl⟩ (weak (fun k => k) (.cons rfl (by first | rfl | simp) (by show _ < _; decide) (.cons rfl (by first | rfl | simp) (by show _ < _; decide) (.cons rfl (by first | exact ren_agI | exact ren_vsI | exact ren_free _ _ (by first | exact inSL_I _ | simp)) (by first | exact inSL_I _ | simp) (.cons rfl (by first | rfl | exact congrArg (AV.i _) (by omega) | exact congrArg (AV.i _) (by simp; omega)) trivial (.cons rfl rfl trivial .nil))))) (.cons rfl (Blk.ren_free (by simp) _) rfl (by first | exact inSL_I _ | simp) (.cons rfl (Blk.ren_free (by simp) _) rfl (by first | exact inSL_I _ | simp) .nil)) rfl rfl rfl) ?_
    rintro ⟨c, s, e, i⟩ hR
    replace hR : i ≤ D.length ∧ B8 c ∧ B8 s ∧ c.length ≤ 2000 ∧ s.length ≤ 2000 ∧ (e = 0 → c = s) := hR
    first | show W _ _ _ ⟨2, [(5, .p 0 0), (6, .p 1 0), (30, .vs D.length (prs D)), (31, .i .i64 D.length), (32, .i .i64 i)], [(0, .blk 62 [.vs c.length (I .u8 c), .i .i64 e]), (1, .blk 45 [.vs s.length (I .u8 s), .i .i64 e])]⟩ | skip
    refine W_seq ?_
    refine W_region ?_
    refine WL_cons hC.fn (.plain rfl (ox_cmp hC rfl (.tmp rfl) (.tmp rfl) rfl rfl rfl)) ?_
    refine WL_nil ?_
    refine W_seq ?_
    refine W_cond rfl (by decide) (fun hc => ?_) (fun hc => ?_)
    ·
      replace hc := lss_t hc
      refine W_skip ?_
      refine W_seq ?_
      refine W_blk ?_
      refine W_seq ?_
      refine W_region ?_
      have hlp := length_prs D
      refine WL_cons hC.fn (.plain rfl (ox_indexS hC (j := i) (.tmp rfl) (.tmp rfl) idx_43 (by first | rfl | omega | (simp; omega)) (by first | exact Nat.mul_one _ | rfl) (by first | exact .row rfl | exact .sl (Nat.zero_add _) | exact .sl rfl | exact .vs (by first | omega | (simp; omega))) (by first | omega | (simp; omega)) rfl rfl)) ?_
      refine WL_cons hC.fn (.plain rfl (oc_load hC (.tmp rfl) (by first | exact .p rfl | exact .rp) shp_47 (by exact (unit_prs (by omega))) rfl rfl)) ?_
      refine WL_cons hC.fn (.plain rfl (ox_alloc hC zero_47 rfl rfl rfl)) ?_
      refine WL_cons hC.fn (.plain rfl (ox_store (bk' := .blk 47 [.i .i64 (D.getD i (0, 0)).1, .i .i64 (D.getD i (0, 0)).2]) hC (.tmp rfl) (.tmp rfl) rfl shp_47 (by first | rfl | exact flat_agI) rfl (by first | exact Nat.le_refl _ | exact Nat.le_of_ble_eq_true rfl | decide | (simp <;> fail) | (simp; omega)) rfl (by first | exact .here | exact .there (.here) rfl | exact .there (.there (.here) rfl) rfl | exact .there (.there (.there (.here) rfl) rfl) rfl | exact .there (.there (.there (.there (.here) rfl) rfl) rfl) rfl | exact .there (.there (.there (.there (.there (.here) rfl) rfl) rfl) rfl) rfl | exact .there (.there (.there (.there (.there (.there (.here) rfl) rfl) rfl) rfl) rfl) rfl | exact .there (.there (.there (.there (.there (.there (.there (.here) rfl) rfl) rfl) rfl) rfl) rfl) rfl | exact .there (.there (.there (.there (.there (.there (.there (.there (.here) rfl) rfl) rfl) rfl) rfl) rfl) rfl) rfl | exact .there (.there (.there (.there (.there (.there (.there (.there (.there (.here) rfl) rfl) rfl) rfl) rfl) rfl) rfl) rfl) rfl) rfl)) ?_
      refine WL_nil ?_
      refine W_seq ?_
      refine W_region ?_
      refine WL_cons hC.fn (.plain rfl (oc_assign hC .cbool rfl rfl)) ?_
      refine WL_nil ?_
      refine W_seq ?_
      refine W_seq ?_
      refine W_region ?_
      refine WL_cons hC.fn (.plain rfl (oc_field hC (.tmp rfl) fld_47_0 (by decide) (by first | exact .p (Nat.zero_add _) | exact .p rfl | exact .rp (by decide)) rfl rfl)) ?_
      refine WL_cons hC.fn (.plain rfl (oc_load hC (.tmp rfl) (by first | exact .p rfl | exact .rp) shp_3 (by first | exact unit_one rfl | exact unit_I (by first | omega | (simp; omega)) | exact unit_c rfl (by decide) | exact unit_c rfl (by simp)) rfl rfl)) ?_
      refine WL_nil ?_
      refine W_blk ?_
      refine W_seq ?_
      rcases (show (D.getD i (0, 0)).1 = 0 ∨ (D.getD i (0, 0)).1 ≠ 0 by omega) with hv | hv
      ·
        have hc2 := hR.2.2.2.1
        have hs2 := hR.2.2.2.2.1
        obtain ⟨e1, c1, q, v, s1, hNc, hNs, hbs, heq⟩ := both_num hR.2.2.2.2.2 (D.getD i (0, 0)).2
        have hc8 := hNc.b8 hR.2.1
        have hcl := hNc.len
        have hs8 : B8 s1 := by
          rcases hbs with h | h
          · rw [h.2]; exact hNs.b8 hR.2.2.1
          · rw [h.2]; exact hR.2.2.1
        have hsl : s1.length ≤ s.length := by
          rcases hbs with h | h
          · rw [h.2]; exact hNs.len
          · rw [h.2]; exact Nat.le_refl _
        refine W_region ?_
        refine WL_cons hC.fn (.plain rfl (ox_cmp hC rfl (.tmp rfl) .cint (r := true) (by simp only [cmpI]; exact decide_eq_true (by omega)) rfl rfl)) ?_
        refine WL_cons hC.fn (.plain rfl (oc_assign hC (.tmp rfl) rfl rfl)) ?_
        refine WL_nil ?_
        refine W_cond rfl (by decide) (fun _ => ?_) (fun hc => by cases hc)
        refine W_seq ?_
        refine W_region ?_
        refine WL_cons hC.fn (.plain rfl (oc_load hC (v := .ag [.vs s.length (I .u8 s), .i .i64 e]) (.tmp rfl) (by first | exact .p rfl | exact .rp) shp_45 (by exact (unit_agg rfl)) rfl rfl)) ?_
        refine WL_cons hC.fn (.plain rfl (oc_field hC (.tmp rfl) fld_47_1 (by decide) (by first | exact .p (Nat.zero_add _) | exact .p rfl | exact .rp (by decide)) rfl rfl)) ?_
        refine WL_cons hC.fn (.plain rfl (oc_load hC (.tmp rfl) (by first | exact .p rfl | exact .rp) shp_3 (by first | exact unit_one rfl | exact unit_I (by first | omega | (simp; omega)) | exact unit_c rfl (by decide) | exact unit_c rfl (by simp)) rfl rfl)) ?_
        refine WL_cons hC.fn (.plain rfl (oc_call hC (.cons (.tmp rfl) (.cons (.tmp rfl) .nil)) (.cons1 (.free (by first | exact inSL_I _ | simp)) (.cons1 (.free (by first | exact inSL_I _ | simp)) (.same (by first | exact inSL_I _ | simp)))) (rread_u s q e e1 hR.2.2.1 (by omega) s1 (D.getD i (0, 0)).2 v hNs hbs) glob_nil (by first | exact inSL_I _ | simp) (by first | exact .inl rfl | exact .inr (by simp)) rfl rfl)) ?_
        refine WL_cons hC.fn (.plain rfl (oc_move hC (.tmp rfl) rfl rfl)) ?_
        refine WL_cons hC.fn (.plain rfl (oc_extract hC (.tmp rfl) rfl rfl rfl)) ?_
        refine WL_cons hC.fn (.plain rfl (oc_extract hC (.tmp rfl) rfl rfl rfl)) ?_
        refine WL_cons hC.fn (.plain rfl (ox_alloc hC zero_45 rfl rfl rfl)) ?_
        refine WL_cons hC.fn (.plain rfl (ox_store (bk' := .blk 45 [.vs s1.length (I .u8 s1), .i .i64 e1]) hC (.tmp rfl) (.tmp rfl) rfl shp_45 (by first | rfl | exact flat_agI) rfl (by first | exact Nat.le_refl _ | exact Nat.le_of_ble_eq_true rfl | decide | (simp <;> fail) | (simp; omega)) rfl (by first | exact .here | exact .there (.here) rfl | exact .there (.there (.here) rfl) rfl | exact .there (.there (.there (.here) rfl) rfl) rfl | exact .there (.there (.there (.there (.here) rfl) rfl) rfl) rfl | exact .there (.there (.there (.there (.there (.here) rfl) rfl) rfl) rfl) rfl | exact .there (.there (.there (.there (.there (.there (.here) rfl) rfl) rfl) rfl) rfl) rfl | exact .there (.there (.there (.there (.there (.there (.there (.here) rfl) rfl) rfl) rfl) rfl) rfl) rfl | exact .there (.there (.there (.there (.there (.there (.there (.there (.here) rfl) rfl) rfl) rfl) rfl) rfl) rfl) rfl | exact .there (.there (.there (.there (.there (.there (.there (.there (.there (.here) rfl) rfl) rfl) rfl) rfl) rfl) rfl) rfl) rfl) rfl)) ?_
        refine WL_cons hC.fn (.plain rfl (oc_assign hC (.tmp rfl) rfl rfl)) ?_
        refine WL_nil ?_
        refine W_drawD hC ?_
        refine WD_cons (.plain rfl (oc_load hC (v := .ag [.vs s1.length (I .u8 s1), .i .i64 e1]) (.tmp rfl) (by first | exact .p rfl | exact .rp) shp_45 (by exact (unit_agg rfl)) rfl rfl)) ?_
        refine WD_cons (.plain rfl (oc_move hC (.tmp rfl) rfl rfl)) ?_
        refine WD_cons (.plain rfl (oc_field hC (.tmp rfl) fld_47_1 (by decide) (by first | exact .p (Nat.zero_add _) | exact .p rfl | exact .rp (by decide)) rfl rfl)) ?_
        refine WD_cons (.plain rfl (oc_load hC (.tmp rfl) (by first | exact .p rfl | exact .rp) shp_3 (by first | exact unit_one rfl | exact unit_I (by first | omega | (simp; omega)) | exact unit_c rfl (by decide) | exact unit_c rfl (by simp)) rfl rfl)) ?_
        refine WD_cons (.plain rfl (oc_callG (τ := fun k => bif Nat.beq k 0 then 0 else k) (N' := 4) hC .func (.cons (.tmp rfl) (.cons (.tmp rfl) .nil)) (.own (by first | rfl | simp) (.v1 (.free (by first | exact inSL_I _ | simp)) .end)) (num_u c c1 e e1 hR.2.1 (by omega) (D.getD i (0, 0)).2 v hNc) glob_nil (mr_cons (by first | exact ren_blkI | exact ren_rowI | exact Blk.ren_free (by simp) _ | rfl) rfl mr_nil) (mr_cons (by first | exact ren_blkI | exact ren_rowI | exact Blk.ren_free (by simp) _ | rfl) rfl mr_nil) rfl (rd_cons rfl rd_nil) rfl rfl rfl rfl (by first | exact .inl rfl | exact .inr ⟨by simp, (nv_cons (by first | exact novsL_I _ | simp) nv_nil)⟩) rfl (dst_ok rfl rfl) (fun t => setE_cons _ _ _ _))) ?_
        refine WD_cons (.plain rfl (oc_move hC (.tmp rfl) rfl rfl)) ?_
        refine WD_cons (.plain rfl (ox_cmp hC rfl (.tmp rfl) (.tmp rfl) (r := true) (by simp [cmpI]) rfl rfl)) ?_
        refine WD_cons (.plain rfl (ox_store (bk' := .blk 45 [.vs s1.length (I .u8 s1), .i .i64 e1]) hC (.tmp rfl) (.tmp rfl) rfl shp_45 (by first | rfl | exact flat_agI) rfl (by first | exact Nat.le_refl _ | exact Nat.le_of_ble_eq_true rfl | decide | (simp <;> fail) | (simp; omega)) rfl (by first | exact .here | exact .there (.here) rfl | exact .there (.there (.here) rfl) rfl | exact .there (.there (.there (.here) rfl) rfl) rfl | exact .there (.there (.there (.there (.here) rfl) rfl) rfl) rfl | exact .there (.there (.there (.there (.there (.here) rfl) rfl) rfl) rfl) rfl | exact .there (.there (.there (.there (.there (.there (.here) rfl) rfl) rfl) rfl) rfl) rfl | exact .there (.there (.there (.there (.there (.there (.there (.here) rfl) rfl) rfl) rfl) rfl) rfl) rfl | exact .there (.there (.there (.there (.there (.there (.there (.there (.here) rfl) rfl) rfl) rfl) rfl) rfl) rfl) rfl | exact .there (.there (.there (.there (.there (.there (.there (.there (.there (.here) rfl) rfl) rfl) rfl) rfl) rfl) rfl) rfl) rfl) rfl)) ?_
        refine WD_cons (.plain rfl (oc_assign hC (.tmp rfl) rfl rfl)) ?_
        refine WD_nil (by kernel_rfl) ?_
        refine W_seq ?_
        refine W_drawD hC ?_
        refine WD_cons (.plain rfl (oc_move hC (.tmp rfl) rfl rfl)) ?_
        refine WD_cons (.plain rfl (oc_not hC (.tmp rfl) rfl rfl)) ?_
        refine WD_cons (.plain rfl (oc_move hC (.tmp rfl) rfl rfl)) ?_
        refine WD_cons (.yes rfl rfl (by decide) rfl (oc_move hC (.tmp rfl) rfl rfl)) ?_
        refine WD_cons (.yes rfl rfl (by decide) rfl (oc_callG (τ := fun k => bif Nat.beq k 0 then 0 else k) (N' := 4) hC .func (.cons (.tmp rfl) .nil) (.own (by first | rfl | simp) .end) (err_c c1.length c1 e1 rfl hc8 (by omega)) glob_nil (mr_cons (by first | exact ren_blkI | exact ren_rowI | exact Blk.ren_free (by simp) _ | rfl) rfl mr_nil) (mr_cons (by first | exact ren_blkI | exact ren_rowI | exact Blk.ren_free (by simp) _ | rfl) rfl mr_nil) rfl (rd_cons rfl rd_nil) rfl rfl rfl rfl (by first | exact .inl rfl | exact .inr ⟨by simp, (nv_cons (by first | exact novsL_I _ | simp) nv_nil)⟩) rfl (dst_ok rfl rfl) (fun t => setE_cons _ _ _ _))) ?_
        refine WD_cons (.yes rfl rfl (by decide) rfl (oc_field hC (.tmp rfl) fld_45_1 (by decide) (by first | exact .p (Nat.zero_add _) | exact .p rfl | exact .rp (by decide)) rfl rfl)) ?_
        refine WD_cons (.yes rfl rfl (by decide) rfl (oc_load hC (.tmp rfl) (by first | exact .p rfl | exact .rp) shp_27 (by first | exact unit_one rfl | exact unit_I (by first | omega | (simp; omega)) | exact unit_c rfl (by decide) | exact unit_c rfl (by simp)) rfl rfl)) ?_
        refine WD_cons (.yes rfl rfl (by decide) rfl (ox_cmp hC rfl (.tmp rfl) (.tmp rfl) (r := false) (by simp [cmpI]) rfl rfl)) ?_
        refine WD_cons (.plain rfl (ox_pick hC (.tmp rfl) .cbool (.tmp rfl) (by first | exact pick_t | exact pick_f | rfl) rfl rfl)) ?_
        refine WD_nil (by kernel_rfl) ?_
        refine W_cond rfl (by decide) (fun hc => by cases hc) (fun _ => ?_)
        refine W_skip ?_
        refine W_region ?_
        refine WL_cons hC.fn (.plain rfl (oc_bin hC rfl (.tmp rfl) .cint (by first | exact i64_add (by omega) | rfl) rfl rfl)) ?_
        refine WL_cons hC.fn (.plain rfl (oc_move hC (.tmp rfl) rfl rfl)) ?_
        refine WL_nil ?_
        exact ⟨(c1, s1, e1, i + 1), ⟨by show i + 1 ≤ _; omega, hc8, hs8, by show c1.length ≤ 2000; omega, by show s1.length ≤ 2000; omega, fun h => (heq h).1⟩, (weak (fun k => k) (.cons rfl (by first | rfl | simp) (by show _ < _; decide) (.cons rfl (by first | rfl | simp) (by show _ < _; decide) (.cons rfl (by first | exact ren_agI | exact ren_vsI | exact ren_free _ _ (by first | exact inSL_I _ | simp)) (by first | exact inSL_I _ | simp) (.cons rfl (by first | rfl | exact congrArg (AV.i _) (by omega) | exact congrArg (AV.i _) (by simp; omega)) trivial (.cons rfl (by first | rfl | exact congrArg (AV.i _) (by omega) | exact congrArg (AV.i _) (by simp; omega)) trivial .nil))))) (.cons rfl (Blk.ren_free (by simp) _) rfl (by first | exact inSL_I _ | simp) (.cons rfl (Blk.ren_free (by simp) _) rfl (by first | exact inSL_I _ | simp) .nil)) rfl rfl rfl), (by show D.length - (i + 1) < D.length - i; omega)⟩
      ·
        refine W_region ?_
        refine WL_cons hC.fn (.plain rfl (ox_cmp hC rfl (.tmp rfl) .cint (r := false) (by simp only [cmpI]; exact decide_eq_false (by omega)) rfl rfl)) ?_
        refine WL_cons hC.fn (.plain rfl (oc_assign hC (.tmp rfl) rfl rfl)) ?_
        refine WL_nil ?_
        refine W_cond rfl (by decide) (fun hc => by cases hc) (fun _ => ?_)
        refine W_seq ?_
        rcases (show (D.getD i (0, 0)).1 = 1 ∨ (D.getD i (0, 0)).1 ≠ 1 by omega) with hv | hv
        ·
          have hc2 := hR.2.2.2.1
          have hs2 := hR.2.2.2.2.1
          obtain ⟨e1, c1, q, v, s1, hNc, hNs, hbs, heq⟩ := both_num hR.2.2.2.2.2 (D.getD i (0, 0)).2
          have hc8 := hNc.b8 hR.2.1
          have hcl := hNc.len
          have hs8 : B8 s1 := by
            rcases hbs with h | h
            · rw [h.2]; exact hNs.b8 hR.2.2.1
            · rw [h.2]; exact hR.2.2.1
          have hsl : s1.length ≤ s.length := by
            rcases hbs with h | h
            · rw [h.2]; exact hNs.len
            · rw [h.2]; exact Nat.le_refl _
          have hsq := hNs.len
          obtain ⟨k, rfl⟩ := Int.eq_ofNat_of_zero_le hNc.nat.1
          refine W_region ?_
          refine WL_cons hC.fn (.plain rfl (ox_cmp hC rfl (.tmp rfl) .cint (r := true) (by simp only [cmpI]; exact decide_eq_true (by omega)) rfl rfl)) ?_
          refine WL_cons hC.fn (.plain rfl (oc_assign hC (.tmp rfl) rfl rfl)) ?_
          refine WL_nil ?_
          refine W_cond rfl (by decide) (fun _ => ?_) (fun hc => by cases hc)
          refine W_seq ?_
          rcases (show e1 ≠ 0 ∨ (e1 = 0 ∧ c1.length < k) ∨ (e1 = 0 ∧ k ≤ c1.length) by omega) with h1 | ⟨h1, hk⟩ | ⟨h1, hk⟩
          ·
            refine W_region ?_
            refine WL_cons hC.fn (.plain rfl (oc_load hC (v := .ag [.vs s.length (I .u8 s), .i .i64 e]) (.tmp rfl) (by first | exact .p rfl | exact .rp) shp_45 (by exact (unit_agg rfl)) rfl rfl)) ?_
            refine WL_cons hC.fn (.plain rfl (oc_field hC (.tmp rfl) fld_47_1 (by decide) (by first | exact .p (Nat.zero_add _) | exact .p rfl | exact .rp (by decide)) rfl rfl)) ?_
            refine WL_cons hC.fn (.plain rfl (oc_load hC (.tmp rfl) (by first | exact .p rfl | exact .rp) shp_3 (by first | exact unit_one rfl | exact unit_I (by first | omega | (simp; omega)) | exact unit_c rfl (by decide) | exact unit_c rfl (by simp)) rfl rfl)) ?_
            refine WL_cons hC.fn (.plain rfl (oc_call hC (.cons (.tmp rfl) (.cons (.tmp rfl) .nil)) (.cons1 (.free (by first | exact inSL_I _ | simp)) (.cons1 (.free (by first | exact inSL_I _ | simp)) (.same (by first | exact inSL_I _ | simp)))) (rrberr_c s q e e1 hR.2.2.1 (by omega) (D.getD i (0, 0)).2 k hNs h1) glob_nil (by first | exact inSL_I _ | simp) (by first | exact .inl rfl | exact .inr (by simp)) rfl rfl)) ?_
            refine WL_cons hC.fn (.plain rfl (oc_move hC (.tmp rfl) rfl rfl)) ?_
            refine WL_cons hC.fn (.plain rfl (oc_extract hC (.tmp rfl) rfl rfl rfl)) ?_
            refine WL_cons hC.fn (.plain rfl (oc_extract hC (.tmp rfl) rfl rfl rfl)) ?_
            refine WL_cons hC.fn (.plain rfl (ox_alloc hC zero_45 rfl rfl rfl)) ?_
            refine WL_cons hC.fn (.plain rfl (ox_store (bk' := .blk 45 [.vs s.length (I .u8 s), .i .i64 e1]) hC (.tmp rfl) (.tmp rfl) rfl shp_45 (by first | rfl | exact flat_agI) rfl (by first | exact Nat.le_refl _ | exact Nat.le_of_ble_eq_true rfl | decide | (simp <;> fail) | (simp; omega)) rfl (by first | exact .here | exact .there (.here) rfl | exact .there (.there (.here) rfl) rfl | exact .there (.there (.there (.here) rfl) rfl) rfl | exact .there (.there (.there (.there (.here) rfl) rfl) rfl) rfl | exact .there (.there (.there (.there (.there (.here) rfl) rfl) rfl) rfl) rfl | exact .there (.there (.there (.there (.there (.there (.here) rfl) rfl) rfl) rfl) rfl) rfl | exact .there (.there (.there (.there (.there (.there (.there (.here) rfl) rfl) rfl) rfl) rfl) rfl) rfl | exact .there (.there (.there (.there (.there (.there (.there (.there (.here) rfl) rfl) rfl) rfl) rfl) rfl) rfl) rfl | exact .there (.there (.there (.there (.there (.there (.there (.there (.there (.here) rfl) rfl) rfl) rfl) rfl) rfl) rfl) rfl) rfl) rfl)) ?_
            refine WL_cons hC.fn (.plain rfl (oc_assign hC (.tmp rfl) rfl rfl)) ?_
            refine WL_nil ?_
            refine W_drawD hC ?_
            refine WD_cons (.plain rfl (oc_load hC (v := .ag [.vs s.length (I .u8 s), .i .i64 e1]) (.tmp rfl) (by first | exact .p rfl | exact .rp) shp_45 (by exact (unit_agg rfl)) rfl rfl)) ?_
            refine WD_cons (.plain rfl (oc_move hC (.tmp rfl) rfl rfl)) ?_
            refine WD_cons (.plain rfl (oc_field hC (.tmp rfl) fld_47_1 (by decide) (by first | exact .p (Nat.zero_add _) | exact .p rfl | exact .rp (by decide)) rfl rfl)) ?_
            refine WD_cons (.plain rfl (oc_load hC (.tmp rfl) (by first | exact .p rfl | exact .rp) shp_3 (by first | exact unit_one rfl | exact unit_I (by first | omega | (simp; omega)) | exact unit_c rfl (by decide) | exact unit_c rfl (by simp)) rfl rfl)) ?_
            refine WD_cons (.plain rfl (oc_callG (τ := fun k => bif Nat.beq k 0 then 0 else k) (N' := 4) hC .func (.cons (.tmp rfl) (.cons (.tmp rfl) .nil)) (.own (by first | rfl | simp) (.v1 (.free (by first | exact inSL_I _ | simp)) .end)) (bytesuerr_c c c1 e e1 hR.2.1 (by omega) (D.getD i (0, 0)).2 k hNc h1) glob_nil (mr_cons (by first | exact ren_blkI | exact ren_rowI | exact Blk.ren_free (by simp) _ | rfl) rfl mr_nil) (mr_cons (by first | exact ren_blkI | exact ren_rowI | exact Blk.ren_free (by simp) _ | rfl) rfl mr_nil) rfl (rd_cons rfl rd_nil) rfl rfl rfl rfl (by first | exact .inl rfl | exact .inr ⟨by simp, (nv_cons (by first | exact novsL_I _ | simp) nv_nil)⟩) rfl (dst_ok rfl rfl) (fun t => setE_cons _ _ _ _))) ?_
            refine WD_cons (.plain rfl (ox_b2s (l := []) hC (.tmp rfl) (by first | exact .row rfl | exact .vs | exact .sl rfl | exact .nils) rfl rfl Try.underlying22 Try.underlying5 Try.underlying9 rfl rfl)) ?_
            refine WD_cons (.plain rfl (oc_move hC (.tmp rfl) rfl rfl)) ?_
            refine WD_cons (.plain rfl (ox_b2s (l := []) hC (.tmp rfl) (by first | exact .row rfl | exact .vs | exact .sl rfl | exact .nils) rfl rfl Try.underlying22 Try.underlying5 Try.underlying9 rfl rfl)) ?_
            refine WD_cons (.plain rfl (ox_eqs hC (.inl rfl) (.tmp rfl) (.tmp rfl) (r := true) rfl rfl rfl)) ?_
            refine WD_cons (.plain rfl (ox_store (bk' := .blk 45 [.vs s.length (I .u8 s), .i .i64 e1]) hC (.tmp rfl) (.tmp rfl) rfl shp_45 (by first | rfl | exact flat_agI) rfl (by first | exact Nat.le_refl _ | exact Nat.le_of_ble_eq_true rfl | decide | (simp <;> fail) | (simp; omega)) rfl (by first | exact .here | exact .there (.here) rfl | exact .there (.there (.here) rfl) rfl | exact .there (.there (.there (.here) rfl) rfl) rfl | exact .there (.there (.there (.there (.here) rfl) rfl) rfl) rfl | exact .there (.there (.there (.there (.there (.here) rfl) rfl) rfl) rfl) rfl | exact .there (.there (.there (.there (.there (.there (.here) rfl) rfl) rfl) rfl) rfl) rfl | exact .there (.there (.there (.there (.there (.there (.there (.here) rfl) rfl) rfl) rfl) rfl) rfl) rfl | exact .there (.there (.there (.there (.there (.there (.there (.there (.here) rfl) rfl) rfl) rfl) rfl) rfl) rfl) rfl | exact .there (.there (.there (.there (.there (.there (.there (.there (.there (.here) rfl) rfl) rfl) rfl) rfl) rfl) rfl) rfl) rfl) rfl)) ?_
            refine WD_cons (.plain rfl (oc_assign hC (.tmp rfl) rfl rfl)) ?_
            refine WD_nil (by kernel_rfl) ?_
            refine W_seq ?_
            refine W_drawD hC ?_
            refine WD_cons (.plain rfl (oc_move hC (.tmp rfl) rfl rfl)) ?_
            refine WD_cons (.plain rfl (oc_not hC (.tmp rfl) rfl rfl)) ?_
            refine WD_cons (.plain rfl (oc_move hC (.tmp rfl) rfl rfl)) ?_
            refine WD_cons (.yes rfl rfl (by decide) rfl (oc_move hC (.tmp rfl) rfl rfl)) ?_
            refine WD_cons (.yes rfl rfl (by decide) rfl (oc_callG (τ := fun k => bif Nat.beq k 0 then 0 else k) (N' := 4) hC .func (.cons (.tmp rfl) .nil) (.own (by first | rfl | simp) .end) (err_c c1.length c1 e1 rfl hc8 (by omega)) glob_nil (mr_cons (by first | exact ren_blkI | exact ren_rowI | exact Blk.ren_free (by simp) _ | rfl) rfl mr_nil) (mr_cons (by first | exact ren_blkI | exact ren_rowI | exact Blk.ren_free (by simp) _ | rfl) rfl mr_nil) rfl (rd_cons rfl rd_nil) rfl rfl rfl rfl (by first | exact .inl rfl | exact .inr ⟨by simp, (nv_cons (by first | exact novsL_I _ | simp) nv_nil)⟩) rfl (dst_ok rfl rfl) (fun t => setE_cons _ _ _ _))) ?_
            refine WD_cons (.yes rfl rfl (by decide) rfl (oc_field hC (.tmp rfl) fld_45_1 (by decide) (by first | exact .p (Nat.zero_add _) | exact .p rfl | exact .rp (by decide)) rfl rfl)) ?_
            refine WD_cons (.yes rfl rfl (by decide) rfl (oc_load hC (.tmp rfl) (by first | exact .p rfl | exact .rp) shp_27 (by first | exact unit_one rfl | exact unit_I (by first | omega | (simp; omega)) | exact unit_c rfl (by decide) | exact unit_c rfl (by simp)) rfl rfl)) ?_
            refine WD_cons (.yes rfl rfl (by decide) rfl (ox_cmp hC rfl (.tmp rfl) (.tmp rfl) (r := false) (by simp [cmpI]) rfl rfl)) ?_
            refine WD_cons (.plain rfl (ox_pick hC (.tmp rfl) .cbool (.tmp rfl) (by first | exact pick_t | exact pick_f | rfl) rfl rfl)) ?_
            refine WD_nil (by kernel_rfl) ?_
            refine W_cond rfl (by decide) (fun hc => by cases hc) (fun _ => ?_)
            refine W_skip ?_
            refine W_region ?_
            refine WL_cons hC.fn (.plain rfl (oc_bin hC rfl (.tmp rfl) .cint (by first | exact i64_add (by omega) | rfl) rfl rfl)) ?_
            refine WL_cons hC.fn (.plain rfl (oc_move hC (.tmp rfl) rfl rfl)) ?_
            refine WL_nil ?_
            exact ⟨(c1, s, e1, i + 1), ⟨by show i + 1 ≤ _; omega, hc8, hR.2.2.1, by show c1.length ≤ 2000; omega, by show s.length ≤ 2000; omega, fun h => absurd h h1⟩, (weak (fun k => k) (.cons rfl (by first | rfl | simp) (by show _ < _; decide) (.cons rfl (by first | rfl | simp) (by show _ < _; decide) (.cons rfl (by first | exact ren_agI | exact ren_vsI | exact ren_free _ _ (by first | exact inSL_I _ | simp)) (by first | exact inSL_I _ | simp) (.cons rfl (by first | rfl | exact congrArg (AV.i _) (by omega) | exact congrArg (AV.i _) (by simp; omega)) trivial (.cons rfl (by first | rfl | exact congrArg (AV.i _) (by omega) | exact congrArg (AV.i _) (by simp; omega)) trivial .nil))))) (.cons rfl (Blk.ren_free (by simp) _) rfl (by first | exact inSL_I _ | simp) (.cons rfl (Blk.ren_free (by simp) _) rfl (by first | exact inSL_I _ | simp) .nil)) rfl rfl rfl), (by show D.length - (i + 1) < D.length - i; omega)⟩
          ·
            have hcq := (heq h1).2
            have hcq2 := congrArg List.length hcq
            refine W_region ?_
            refine WL_cons hC.fn (.plain rfl (oc_load hC (v := .ag [.vs s.length (I .u8 s), .i .i64 e]) (.tmp rfl) (by first | exact .p rfl | exact .rp) shp_45 (by exact (unit_agg rfl)) rfl rfl)) ?_
            refine WL_cons hC.fn (.plain rfl (oc_field hC (.tmp rfl) fld_47_1 (by decide) (by first | exact .p (Nat.zero_add _) | exact .p rfl | exact .rp (by decide)) rfl rfl)) ?_
            refine WL_cons hC.fn (.plain rfl (oc_load hC (.tmp rfl) (by first | exact .p rfl | exact .rp) shp_3 (by first | exact unit_one rfl | exact unit_I (by first | omega | (simp; omega)) | exact unit_c rfl (by decide) | exact unit_c rfl (by simp)) rfl rfl)) ?_
            refine WL_cons hC.fn (.plain rfl (oc_call hC (.cons (.tmp rfl) (.cons (.tmp rfl) .nil)) (.cons1 (.free (by first | exact inSL_I _ | simp)) (.cons1 (.free (by first | exact inSL_I _ | simp)) (.same (by first | exact inSL_I _ | simp)))) (rrbshort_c s q e e1 hR.2.2.1 (by omega) (D.getD i (0, 0)).2 k hNs h1 k rfl (by omega)) glob_nil (by first | exact inSL_I _ | simp) (by first | exact .inl rfl | exact .inr (by simp)) rfl rfl)) ?_
            refine WL_cons hC.fn (.plain rfl (oc_move hC (.tmp rfl) rfl rfl)) ?_
            refine WL_cons hC.fn (.plain rfl (oc_extract hC (.tmp rfl) rfl rfl rfl)) ?_
            refine WL_cons hC.fn (.plain rfl (oc_extract hC (.tmp rfl) rfl rfl rfl)) ?_
            refine WL_cons hC.fn (.plain rfl (ox_alloc hC zero_45 rfl rfl rfl)) ?_
            refine WL_cons hC.fn (.plain rfl (ox_store (bk' := .blk 45 [.vs q.length (I .u8 q), .i .i64 2]) hC (.tmp rfl) (.tmp rfl) rfl shp_45 (by first | rfl | exact flat_agI) rfl (by first | exact Nat.le_refl _ | exact Nat.le_of_ble_eq_true rfl | decide | (simp <;> fail) | (simp; omega)) rfl (by first | exact .here | exact .there (.here) rfl | exact .there (.there (.here) rfl) rfl | exact .there (.there (.there (.here) rfl) rfl) rfl | exact .there (.there (.there (.there (.here) rfl) rfl) rfl) rfl | exact .there (.there (.there (.there (.there (.here) rfl) rfl) rfl) rfl) rfl | exact .there (.there (.there (.there (.there (.there (.here) rfl) rfl) rfl) rfl) rfl) rfl | exact .there (.there (.there (.there (.there (.there (.there (.here) rfl) rfl) rfl) rfl) rfl) rfl) rfl | exact .there (.there (.there (.there (.there (.there (.there (.there (.here) rfl) rfl) rfl) rfl) rfl) rfl) rfl) rfl | exact .there (.there (.there (.there (.there (.there (.there (.there (.there (.here) rfl) rfl) rfl) rfl) rfl) rfl) rfl) rfl) rfl) rfl)) ?_
            refine WL_cons hC.fn (.plain rfl (oc_assign hC (.tmp rfl) rfl rfl)) ?_
            refine WL_nil ?_
            refine W_drawD hC ?_
            refine WD_cons (.plain rfl (oc_load hC (v := .ag [.vs q.length (I .u8 q), .i .i64 2]) (.tmp rfl) (by first | exact .p rfl | exact .rp) shp_45 (by exact (unit_agg rfl)) rfl rfl)) ?_
            refine WD_cons (.plain rfl (oc_move hC (.tmp rfl) rfl rfl)) ?_
            refine WD_cons (.plain rfl (oc_field hC (.tmp rfl) fld_47_1 (by decide) (by first | exact .p (Nat.zero_add _) | exact .p rfl | exact .rp (by decide)) rfl rfl)) ?_
            refine WD_cons (.plain rfl (oc_load hC (.tmp rfl) (by first | exact .p rfl | exact .rp) shp_3 (by first | exact unit_one rfl | exact unit_I (by first | omega | (simp; omega)) | exact unit_c rfl (by decide) | exact unit_c rfl (by simp)) rfl rfl)) ?_
            refine WD_cons (.plain rfl (oc_callG (τ := fun k => bif Nat.beq k 0 then 0 else k) (N' := 4) hC .func (.cons (.tmp rfl) (.cons (.tmp rfl) .nil)) (.own (by first | rfl | simp) (.v1 (.free (by first | exact inSL_I _ | simp)) .end)) (bytesushort_c c c1 e e1 hR.2.1 (by omega) (D.getD i (0, 0)).2 k hNc h1 k rfl hk) glob_nil (mr_cons (by first | exact ren_blkI | exact ren_rowI | exact Blk.ren_free (by simp) _ | rfl) rfl mr_nil) (mr_cons (by first | exact ren_blkI | exact ren_rowI | exact Blk.ren_free (by simp) _ | rfl) rfl mr_nil) rfl (rd_cons rfl rd_nil) rfl rfl rfl rfl (by first | exact .inl rfl | exact .inr ⟨by simp, (nv_cons (by first | exact novsL_I _ | simp) nv_nil)⟩) rfl (dst_ok rfl rfl) (fun t => setE_cons _ _ _ _))) ?_
            refine WD_cons (.plain rfl (ox_b2s (l := []) hC (.tmp rfl) (by first | exact .row rfl | exact .vs | exact .sl rfl | exact .nils) rfl rfl Try.underlying22 Try.underlying5 Try.underlying9 rfl rfl)) ?_
            refine WD_cons (.plain rfl (oc_move hC (.tmp rfl) rfl rfl)) ?_
            refine WD_cons (.plain rfl (ox_b2s (l := []) hC (.tmp rfl) (by first | exact .row rfl | exact .vs | exact .sl rfl | exact .nils) rfl rfl Try.underlying22 Try.underlying5 Try.underlying9 rfl rfl)) ?_
            refine WD_cons (.plain rfl (ox_eqs hC (.inl rfl) (.tmp rfl) (.tmp rfl) (r := true) rfl rfl rfl)) ?_
            refine WD_cons (.plain rfl (ox_store (bk' := .blk 45 [.vs q.length (I .u8 q), .i .i64 2]) hC (.tmp rfl) (.tmp rfl) rfl shp_45 (by first | rfl | exact flat_agI) rfl (by first | exact Nat.le_refl _ | exact Nat.le_of_ble_eq_true rfl | decide | (simp <;> fail) | (simp; omega)) rfl (by first | exact .here | exact .there (.here) rfl | exact .there (.there (.here) rfl) rfl | exact .there (.there (.there (.here) rfl) rfl) rfl | exact .there (.there (.there (.there (.here) rfl) rfl) rfl) rfl | exact .there (.there (.there (.there (.there (.here) rfl) rfl) rfl) rfl) rfl | exact .there (.there (.there (.there (.there (.there (.here) rfl) rfl) rfl) rfl) rfl) rfl | exact .there (.there (.there (.there (.there (.there (.there (.here) rfl) rfl) rfl) rfl) rfl) rfl) rfl | exact .there (.there (.there (.there (.there (.there (.there (.there (.here) rfl) rfl) rfl) rfl) rfl) rfl) rfl) rfl | exact .there (.there (.there (.there (.there (.there (.there (.there (.there (.here) rfl) rfl) rfl) rfl) rfl) rfl) rfl) rfl) rfl) rfl)) ?_
            refine WD_cons (.plain rfl (oc_assign hC (.tmp rfl) rfl rfl)) ?_
            refine WD_nil (by kernel_rfl) ?_
            refine W_seq ?_
            refine W_drawD hC ?_
            refine WD_cons (.plain rfl (oc_move hC (.tmp rfl) rfl rfl)) ?_
            refine WD_cons (.plain rfl (oc_not hC (.tmp rfl) rfl rfl)) ?_
            refine WD_cons (.plain rfl (oc_move hC (.tmp rfl) rfl rfl)) ?_
            refine WD_cons (.yes rfl rfl (by decide) rfl (oc_move hC (.tmp rfl) rfl rfl)) ?_
            refine WD_cons (.yes rfl rfl (by decide) rfl (oc_callG (τ := fun k => bif Nat.beq k 0 then 0 else k) (N' := 4) hC .func (.cons (.tmp rfl) .nil) (.own (by first | rfl | simp) .end) (err_c c1.length c1 2 rfl hc8 (by omega)) glob_nil (mr_cons (by first | exact ren_blkI | exact ren_rowI | exact Blk.ren_free (by simp) _ | rfl) rfl mr_nil) (mr_cons (by first | exact ren_blkI | exact ren_rowI | exact Blk.ren_free (by simp) _ | rfl) rfl mr_nil) rfl (rd_cons rfl rd_nil) rfl rfl rfl rfl (by first | exact .inl rfl | exact .inr ⟨by simp, (nv_cons (by first | exact novsL_I _ | simp) nv_nil)⟩) rfl (dst_ok rfl rfl) (fun t => setE_cons _ _ _ _))) ?_
            refine WD_cons (.yes rfl rfl (by decide) rfl (oc_field hC (.tmp rfl) fld_45_1 (by decide) (by first | exact .p (Nat.zero_add _) | exact .p rfl | exact .rp (by decide)) rfl rfl)) ?_
            refine WD_cons (.yes rfl rfl (by decide) rfl (oc_load hC (.tmp rfl) (by first | exact .p rfl | exact .rp) shp_27 (by first | exact unit_one rfl | exact unit_I (by first | omega | (simp; omega)) | exact unit_c rfl (by decide) | exact unit_c rfl (by simp)) rfl rfl)) ?_
            refine WD_cons (.yes rfl rfl (by decide) rfl (ox_cmp hC rfl (.tmp rfl) (.tmp rfl) (r := false) (by simp [cmpI]) rfl rfl)) ?_
            refine WD_cons (.plain rfl (ox_pick hC (.tmp rfl) .cbool (.tmp rfl) (by first | exact pick_t | exact pick_f | rfl) rfl rfl)) ?_
            refine WD_nil (by kernel_rfl) ?_
            refine W_cond rfl (by decide) (fun hc => by cases hc) (fun _ => ?_)
            refine W_skip ?_
            refine W_region ?_
            refine WL_cons hC.fn (.plain rfl (oc_bin hC rfl (.tmp rfl) .cint (by first | exact i64_add (by omega) | rfl) rfl rfl)) ?_
            refine WL_cons hC.fn (.plain rfl (oc_move hC (.tmp rfl) rfl rfl)) ?_
            refine WL_nil ?_
            exact ⟨(c1, q, 2, i + 1), ⟨by show i + 1 ≤ _; omega, hc8, (hNs.b8 hR.2.2.1), by show c1.length ≤ 2000; omega, by show q.length ≤ 2000; omega, fun h => absurd h (by show ¬ (2 : Int) = 0; decide)⟩, (weak (fun k => k) (.cons rfl (by first | rfl | simp) (by show _ < _; decide) (.cons rfl (by first | rfl | simp) (by show _ < _; decide) (.cons rfl (by first | exact ren_agI | exact ren_vsI | exact ren_free _ _ (by first | exact inSL_I _ | simp)) (by first | exact inSL_I _ | simp) (.cons rfl (by first | rfl | exact congrArg (AV.i _) (by omega) | exact congrArg (AV.i _) (by simp; omega)) trivial (.cons rfl (by first | rfl | exact congrArg (AV.i _) (by omega) | exact congrArg (AV.i _) (by simp; omega)) trivial .nil))))) (.cons rfl (Blk.ren_free (by simp) _) rfl (by first | exact inSL_I _ | simp) (.cons rfl (Blk.ren_free (by simp) _) rfl (by first | exact inSL_I _ | simp) .nil)) rfl rfl rfl), (by show D.length - (i + 1) < D.length - i; omega)⟩
          ·
            subst h1
            have hcq := (heq rfl).2
            have hcq2 := congrArg List.length hcq
            have hdl : (c1.drop k).length ≤ c1.length := by rw [List.length_drop]; omega
            have hdq : (q.drop k).length ≤ q.length := by rw [List.length_drop]; omega
            refine W_region ?_
            refine WL_cons hC.fn (.plain rfl (oc_load hC (v := .ag [.vs s.length (I .u8 s), .i .i64 e]) (.tmp rfl) (by first | exact .p rfl | exact .rp) shp_45 (by exact (unit_agg rfl)) rfl rfl)) ?_
            refine WL_cons hC.fn (.plain rfl (oc_field hC (.tmp rfl) fld_47_1 (by decide) (by first | exact .p (Nat.zero_add _) | exact .p rfl | exact .rp (by decide)) rfl rfl)) ?_
            refine WL_cons hC.fn (.plain rfl (oc_load hC (.tmp rfl) (by first | exact .p rfl | exact .rp) shp_3 (by first | exact unit_one rfl | exact unit_I (by first | omega | (simp; omega)) | exact unit_c rfl (by decide) | exact unit_c rfl (by simp)) rfl rfl)) ?_
            refine WL_cons hC.fn (.plain rfl (oc_call hC (.cons (.tmp rfl) (.cons (.tmp rfl) .nil)) (.cons1 (.free (by first | exact inSL_I _ | simp)) (.cons1 (.free (by first | exact inSL_I _ | simp)) (.same (by first | exact inSL_I _ | simp)))) (rrb_c s q e 0 hR.2.2.1 (by omega) (D.getD i (0, 0)).2 k hNs rfl k rfl (by omega)) glob_nil (by first | exact inSL_I _ | simp) (by first | exact .inl rfl | exact .inr (by simp)) rfl rfl)) ?_
            rw [show q.length - k = (q.drop k).length by simp]
            refine WL_cons hC.fn (.plain rfl (oc_move hC (.tmp rfl) rfl rfl)) ?_
            refine WL_cons hC.fn (.plain rfl (oc_extract hC (.tmp rfl) rfl rfl rfl)) ?_
            refine WL_cons hC.fn (.plain rfl (oc_extract hC (.tmp rfl) rfl rfl rfl)) ?_
            refine WL_cons hC.fn (.plain rfl (ox_alloc hC zero_45 rfl rfl rfl)) ?_
            refine WL_cons hC.fn (.plain rfl (ox_store (bk' := .blk 45 [.vs (q.drop k).length (I .u8 (q.drop k)), .i .i64 0]) hC (.tmp rfl) (.tmp rfl) rfl shp_45 (by first | rfl | exact flat_agI) rfl (by first | exact Nat.le_refl _ | exact Nat.le_of_ble_eq_true rfl | decide | (simp <;> fail) | (simp; omega)) rfl (by first | exact .here | exact .there (.here) rfl | exact .there (.there (.here) rfl) rfl | exact .there (.there (.there (.here) rfl) rfl) rfl | exact .there (.there (.there (.there (.here) rfl) rfl) rfl) rfl | exact .there (.there (.there (.there (.there (.here) rfl) rfl) rfl) rfl) rfl | exact .there (.there (.there (.there (.there (.there (.here) rfl) rfl) rfl) rfl) rfl) rfl | exact .there (.there (.there (.there (.there (.there (.there (.here) rfl) rfl) rfl) rfl) rfl) rfl) rfl | exact .there (.there (.there (.there (.there (.there (.there (.there (.here) rfl) rfl) rfl) rfl) rfl) rfl) rfl) rfl | exact .there (.there (.there (.there (.there (.there (.there (.there (.there (.here) rfl) rfl) rfl) rfl) rfl) rfl) rfl) rfl) rfl) rfl)) ?_
            refine WL_cons hC.fn (.plain rfl (oc_assign hC (.tmp rfl) rfl rfl)) ?_
            refine WL_nil ?_
            refine W_drawD hC ?_
            refine WD_cons (.plain rfl (oc_load hC (v := .ag [.vs (q.drop k).length (I .u8 (q.drop k)), .i .i64 0]) (.tmp rfl) (by first | exact .p rfl | exact .rp) shp_45 (by exact (unit_agg rfl)) rfl rfl)) ?_
            refine WD_cons (.plain rfl (oc_move hC (.tmp rfl) rfl rfl)) ?_
            refine WD_cons (.plain rfl (oc_field hC (.tmp rfl) fld_47_1 (by decide) (by first | exact .p (Nat.zero_add _) | exact .p rfl | exact .rp (by decide)) rfl rfl)) ?_
            refine WD_cons (.plain rfl (oc_load hC (.tmp rfl) (by first | exact .p rfl | exact .rp) shp_3 (by first | exact unit_one rfl | exact unit_I (by first | omega | (simp; omega)) | exact unit_c rfl (by decide) | exact unit_c rfl (by simp)) rfl rfl)) ?_
            refine WD_cons (.plain rfl (oc_callG (τ := fun k => bif Nat.beq k 0 then 0 else k) (N' := 4) hC .func (.cons (.tmp rfl) (.cons (.tmp rfl) .nil)) (.own (by first | rfl | simp) (.v1 (.free (by first | exact inSL_I _ | simp)) .end)) (bytesu_c c c1 e 0 hR.2.1 (by omega) (D.getD i (0, 0)).2 k hNc rfl k rfl hk) glob_nil (mr_cons (by first | exact ren_blkI | exact ren_rowI | exact Blk.ren_free (by simp) _ | rfl) rfl mr_nil) (mr_cons (by first | exact ren_blkI | exact ren_rowI | exact Blk.ren_free (by simp) _ | rfl) rfl mr_nil) ren_vsI (rd_cons rfl rd_nil) rfl rfl rfl rfl (by first | exact .inl rfl | exact .inr ⟨by simp, (nv_cons (by first | exact novsL_I _ | simp) nv_nil)⟩) rfl (dst_ok rfl rfl) (fun t => setE_cons _ _ _ _))) ?_
            rw [show c1.length - k = (c1.drop k).length by simp]
            refine WD_cons (.plain rfl (ox_b2s (l := (c1.take k)) hC (.tmp rfl) (by first | exact .row rfl | exact .vs | exact .sl rfl | exact .nils) (by first | exact take_allI (by first | assumption | rfl | (simp; omega) | omega) | exact take_cutI | exact take_takeI) (by rw [List.length_take]; omega) Try.underlying22 Try.underlying5 Try.underlying9 rfl rfl)) ?_
            refine WD_cons (.plain rfl (oc_move hC (.tmp rfl) rfl rfl)) ?_
            refine WD_cons (.plain rfl (ox_b2s (l := (q.take k)) hC (.tmp rfl) (by first | exact .row rfl | exact .vs | exact .sl rfl | exact .nils) (by first | exact take_allI (by first | assumption | rfl | (simp; omega) | omega) | exact take_cutI | exact take_takeI) (by rw [List.length_take]; omega) Try.underlying22 Try.underlying5 Try.underlying9 rfl rfl)) ?_
            refine WD_cons (.plain rfl (ox_eqs hC (.inl rfl) (.tmp rfl) (.tmp rfl) (r := true) (by rw [hcq]; simp) rfl rfl)) ?_
            refine WD_cons (.plain rfl (ox_store (bk' := .blk 45 [.vs (q.drop k).length (I .u8 (q.drop k)), .i .i64 0]) hC (.tmp rfl) (.tmp rfl) rfl shp_45 (by first | rfl | exact flat_agI) rfl (by first | exact Nat.le_refl _ | exact Nat.le_of_ble_eq_true rfl | decide | (simp <;> fail) | (simp; omega)) rfl (by first | exact .here | exact .there (.here) rfl | exact .there (.there (.here) rfl) rfl | exact .there (.there (.there (.here) rfl) rfl) rfl | exact .there (.there (.there (.there (.here) rfl) rfl) rfl) rfl | exact .there (.there (.there (.there (.there (.here) rfl) rfl) rfl) rfl) rfl | exact .there (.there (.there (.there (.there (.there (.here) rfl) rfl) rfl) rfl) rfl) rfl | exact .there (.there (.there (.there (.there (.there (.there (.here) rfl) rfl) rfl) rfl) rfl) rfl) rfl | exact .there (.there (.there (.there (.there (.there (.there (.there (.here) rfl) rfl) rfl) rfl) rfl) rfl) rfl) rfl | exact .there (.there (.there (.there (.there (.there (.there (.there (.there (.here) rfl) rfl) rfl) rfl) rfl) rfl) rfl) rfl) rfl) rfl)) ?_
            refine WD_cons (.plain rfl (oc_assign hC (.tmp rfl) rfl rfl)) ?_
            refine WD_nil (by kernel_rfl) ?_
            refine W_seq ?_
            refine W_drawD hC ?_
            refine WD_cons (.plain rfl (oc_move hC (.tmp rfl) rfl rfl)) ?_
            refine WD_cons (.plain rfl (oc_not hC (.tmp rfl) rfl rfl)) ?_
            refine WD_cons (.plain rfl (oc_move hC (.tmp rfl) rfl rfl)) ?_
            refine WD_cons (.yes rfl rfl (by decide) rfl (oc_move hC (.tmp rfl) rfl rfl)) ?_
            refine WD_cons (.yes rfl rfl (by decide) rfl (oc_callG (τ := fun k => bif Nat.beq k 0 then 0 else k) (N' := 4) hC .func (.cons (.tmp rfl) .nil) (.own (by first | rfl | simp) .end) (err_c (c1.drop k).length (c1.drop k) 0 rfl (fun x hx => hc8 x (List.mem_of_mem_drop hx)) (by omega)) glob_nil (mr_cons (by first | exact ren_blkI | exact ren_rowI | exact Blk.ren_free (by simp) _ | rfl) rfl mr_nil) (mr_cons (by first | exact ren_blkI | exact ren_rowI | exact Blk.ren_free (by simp) _ | rfl) rfl mr_nil) rfl (rd_cons rfl rd_nil) rfl rfl rfl rfl (by first | exact .inl rfl | exact .inr ⟨by simp, (nv_cons (by first | exact novsL_I _ | simp) nv_nil)⟩) rfl (dst_ok rfl rfl) (fun t => setE_cons _ _ _ _))) ?_
            refine WD_cons (.yes rfl rfl (by decide) rfl (oc_field hC (.tmp rfl) fld_45_1 (by decide) (by first | exact .p (Nat.zero_add _) | exact .p rfl | exact .rp (by decide)) rfl rfl)) ?_
            refine WD_cons (.yes rfl rfl (by decide) rfl (oc_load hC (.tmp rfl) (by first | exact .p rfl | exact .rp) shp_27 (by first | exact unit_one rfl | exact unit_I (by first | omega | (simp; omega)) | exact unit_c rfl (by decide) | exact unit_c rfl (by simp)) rfl rfl)) ?_
            refine WD_cons (.yes rfl rfl (by decide) rfl (ox_cmp hC rfl (.tmp rfl) (.tmp rfl) (r := false) (by simp [cmpI]) rfl rfl)) ?_
            refine WD_cons (.plain rfl (ox_pick hC (.tmp rfl) .cbool (.tmp rfl) (by first | exact pick_t | exact pick_f | rfl) rfl rfl)) ?_
            refine WD_nil (by kernel_rfl) ?_
            refine W_cond rfl (by decide) (fun hc => by cases hc) (fun _ => ?_)
            refine W_skip ?_
            refine W_region ?_
            refine WL_cons hC.fn (.plain rfl (oc_bin hC rfl (.tmp rfl) .cint (by first | exact i64_add (by omega) | rfl) rfl rfl)) ?_
            refine WL_cons hC.fn (.plain rfl (oc_move hC (.tmp rfl) rfl rfl)) ?_
            refine WL_nil ?_
            exact ⟨((c1.drop k), (q.drop k), 0, i + 1), ⟨by show i + 1 ≤ _; omega, (fun x hx => hc8 x (List.mem_of_mem_drop hx)), (fun x hx => (hNs.b8 hR.2.2.1) x (List.mem_of_mem_drop hx)), by show (c1.drop k).length ≤ 2000; omega, by show (q.drop k).length ≤ 2000; omega, fun _ => by rw [hcq]⟩, (weak (fun k => k) (.cons rfl (by first | rfl | simp) (by show _ < _; decide) (.cons rfl (by first | rfl | simp) (by show _ < _; decide) (.cons rfl (by first | exact ren_agI | exact ren_vsI | exact ren_free _ _ (by first | exact inSL_I _ | simp)) (by first | exact inSL_I _ | simp) (.cons rfl (by first | rfl | exact congrArg (AV.i _) (by omega) | exact congrArg (AV.i _) (by simp; omega)) trivial (.cons rfl (by first | rfl | exact congrArg (AV.i _) (by omega) | exact congrArg (AV.i _) (by simp; omega)) trivial .nil))))) (.cons rfl (Blk.ren_free (by simp) _) rfl (by first | exact inSL_I _ | simp) (.cons rfl (Blk.ren_free (by simp) _) rfl (by first | exact inSL_I _ | simp) .nil)) rfl rfl rfl), (by show D.length - (i + 1) < D.length - i; omega)⟩
        ·
          refine W_region ?_
          refine WL_cons hC.fn (.plain rfl (ox_cmp hC rfl (.tmp rfl) .cint (r := false) (by simp only [cmpI]; exact decide_eq_false (by omega)) rfl rfl)) ?_
          refine WL_cons hC.fn (.plain rfl (oc_assign hC (.tmp rfl) rfl rfl)) ?_
          refine WL_nil ?_
          refine W_cond rfl (by decide) (fun hc => by cases hc) (fun _ => ?_)
          refine W_seq ?_
          rcases (show (D.getD i (0, 0)).1 = 2 ∨ (D.getD i (0, 0)).1 ≠ 2 by omega) with hv | hv
          ·
            have hc2 := hR.2.2.2.1
            have hs2 := hR.2.2.2.2.1
            obtain ⟨e1, c1, s1, x, hNc, hNs, heq⟩ := both_fix hR.2.2.2.2.2 (D.getD i (0, 0)).2
            have hc8 := hNc.b8 hR.2.1
            have hcl := hNc.len
            have hs8 := hNs.b8 hR.2.2.1
            have hsl := hNs.len
            refine W_region ?_
            refine WL_cons hC.fn (.plain rfl (ox_cmp hC rfl (.tmp rfl) .cint (r := true) (by simp only [cmpI]; exact decide_eq_true (by omega)) rfl rfl)) ?_
            refine WL_cons hC.fn (.plain rfl (oc_assign hC (.tmp rfl) rfl rfl)) ?_
            refine WL_nil ?_
            refine W_cond rfl (by decide) (fun _ => ?_) (fun hc => by cases hc)
            refine W_seq ?_
            refine W_region ?_
            refine WL_cons hC.fn (.plain rfl (oc_load hC (v := .ag [.vs s.length (I .u8 s), .i .i64 e]) (.tmp rfl) (by first | exact .p rfl | exact .rp) shp_45 (by exact (unit_agg rfl)) rfl rfl)) ?_
            refine WL_cons hC.fn (.plain rfl (oc_field hC (.tmp rfl) fld_47_1 (by decide) (by first | exact .p (Nat.zero_add _) | exact .p rfl | exact .rp (by decide)) rfl rfl)) ?_
            refine WL_cons hC.fn (.plain rfl (oc_load hC (.tmp rfl) (by first | exact .p rfl | exact .rp) shp_3 (by first | exact unit_one rfl | exact unit_I (by first | omega | (simp; omega)) | exact unit_c rfl (by decide) | exact unit_c rfl (by simp)) rfl rfl)) ?_
            refine WL_cons hC.fn (.plain rfl (oc_call hC (.cons (.tmp rfl) (.cons (.tmp rfl) .nil)) (.cons1 (.free (by first | exact inSL_I _ | simp)) (.cons1 (.free (by first | exact inSL_I _ | simp)) (.same (by first | exact inSL_I _ | simp)))) (rfix_u s s1 e e1 hR.2.2.1 (by omega) x (D.getD i (0, 0)).2 hNs) glob_nil (by first | exact inSL_I _ | simp) (by first | exact .inl rfl | exact .inr (by simp)) rfl rfl)) ?_
            refine WL_cons hC.fn (.plain rfl (oc_move hC (.tmp rfl) rfl rfl)) ?_
            refine WL_cons hC.fn (.plain rfl (oc_extract hC (.tmp rfl) rfl rfl rfl)) ?_
            refine WL_cons hC.fn (.plain rfl (oc_extract hC (.tmp rfl) rfl rfl rfl)) ?_
            refine WL_cons hC.fn (.plain rfl (ox_alloc hC zero_45 rfl rfl rfl)) ?_
            refine WL_cons hC.fn (.plain rfl (ox_store (bk' := .blk 45 [.vs s1.length (I .u8 s1), .i .i64 e1]) hC (.tmp rfl) (.tmp rfl) rfl shp_45 (by first | rfl | exact flat_agI) rfl (by first | exact Nat.le_refl _ | exact Nat.le_of_ble_eq_true rfl | decide | (simp <;> fail) | (simp; omega)) rfl (by first | exact .here | exact .there (.here) rfl | exact .there (.there (.here) rfl) rfl | exact .there (.there (.there (.here) rfl) rfl) rfl | exact .there (.there (.there (.there (.here) rfl) rfl) rfl) rfl | exact .there (.there (.there (.there (.there (.here) rfl) rfl) rfl) rfl) rfl | exact .there (.there (.there (.there (.there (.there (.here) rfl) rfl) rfl) rfl) rfl) rfl | exact .there (.there (.there (.there (.there (.there (.there (.here) rfl) rfl) rfl) rfl) rfl) rfl) rfl | exact .there (.there (.there (.there (.there (.there (.there (.there (.here) rfl) rfl) rfl) rfl) rfl) rfl) rfl) rfl | exact .there (.there (.there (.there (.there (.there (.there (.there (.there (.here) rfl) rfl) rfl) rfl) rfl) rfl) rfl) rfl) rfl) rfl)) ?_
            refine WL_cons hC.fn (.plain rfl (oc_assign hC (.tmp rfl) rfl rfl)) ?_
            refine WL_nil ?_
            refine W_drawD hC ?_
            refine WD_cons (.plain rfl (oc_load hC (v := .ag [.vs s1.length (I .u8 s1), .i .i64 e1]) (.tmp rfl) (by first | exact .p rfl | exact .rp) shp_45 (by exact (unit_agg rfl)) rfl rfl)) ?_
            refine WD_cons (.plain rfl (oc_move hC (.tmp rfl) rfl rfl)) ?_
            refine WD_cons (.plain rfl (oc_field hC (.tmp rfl) fld_47_1 (by decide) (by first | exact .p (Nat.zero_add _) | exact .p rfl | exact .rp (by decide)) rfl rfl)) ?_
            refine WD_cons (.plain rfl (oc_load hC (.tmp rfl) (by first | exact .p rfl | exact .rp) shp_3 (by first | exact unit_one rfl | exact unit_I (by first | omega | (simp; omega)) | exact unit_c rfl (by decide) | exact unit_c rfl (by simp)) rfl rfl)) ?_
            refine WD_cons (.plain rfl (oc_callG (τ := fun k => bif Nat.beq k 0 then 0 else k) (N' := 4) hC .func (.cons (.tmp rfl) (.cons (.tmp rfl) .nil)) (.own (by first | rfl | simp) (.v1 (.free (by first | exact inSL_I _ | simp)) .end)) (fixr_u c c1 e e1 hR.2.1 (by omega) x (D.getD i (0, 0)).2 hNc) glob_nil (mr_cons (by first | exact ren_blkI | exact ren_rowI | exact Blk.ren_free (by simp) _ | rfl) rfl mr_nil) (mr_cons (by first | exact ren_blkI | exact ren_rowI | exact Blk.ren_free (by simp) _ | rfl) rfl mr_nil) rfl (rd_cons rfl rd_nil) rfl rfl rfl rfl (by first | exact .inl rfl | exact .inr ⟨by simp, (nv_cons (by first | exact novsL_I _ | simp) nv_nil)⟩) rfl (dst_ok rfl rfl) (fun t => setE_cons _ _ _ _))) ?_
            refine WD_cons (.plain rfl (oc_move hC (.tmp rfl) rfl rfl)) ?_
            refine WD_cons (.plain rfl (ox_cmp hC rfl (.tmp rfl) (.tmp rfl) (r := true) (by simp [cmpI]) rfl rfl)) ?_
            refine WD_cons (.plain rfl (ox_store (bk' := .blk 45 [.vs s1.length (I .u8 s1), .i .i64 e1]) hC (.tmp rfl) (.tmp rfl) rfl shp_45 (by first | rfl | exact flat_agI) rfl (by first | exact Nat.le_refl _ | exact Nat.le_of_ble_eq_true rfl | decide | (simp <;> fail) | (simp; omega)) rfl (by first | exact .here | exact .there (.here) rfl | exact .there (.there (.here) rfl) rfl | exact .there (.there (.there (.here) rfl) rfl) rfl | exact .there (.there (.there (.there (.here) rfl) rfl) rfl) rfl | exact .there (.there (.there (.there (.there (.here) rfl) rfl) rfl) rfl) rfl | exact .there (.there (.there (.there (.there (.there (.here) rfl) rfl) rfl) rfl) rfl) rfl | exact .there (.there (.there (.there (.there (.there (.there (.here) rfl) rfl) rfl) rfl) rfl) rfl) rfl | exact .there (.there (.there (.there (.there (.there (.there (.there (.here) rfl) rfl) rfl) rfl) rfl) rfl) rfl) rfl | exact .there (.there (.there (.there (.there (.there (.there (.there (.there (.here) rfl) rfl) rfl) rfl) rfl) rfl) rfl) rfl) rfl) rfl)) ?_
            refine WD_cons (.plain rfl (oc_assign hC (.tmp rfl) rfl rfl)) ?_
            refine WD_nil (by kernel_rfl) ?_
            refine W_seq ?_
            refine W_drawD hC ?_
            refine WD_cons (.plain rfl (oc_move hC (.tmp rfl) rfl rfl)) ?_
            refine WD_cons (.plain rfl (oc_not hC (.tmp rfl) rfl rfl)) ?_
            refine WD_cons (.plain rfl (oc_move hC (.tmp rfl) rfl rfl)) ?_
            refine WD_cons (.yes rfl rfl (by decide) rfl (oc_move hC (.tmp rfl) rfl rfl)) ?_
            refine WD_cons (.yes rfl rfl (by decide) rfl (oc_callG (τ := fun k => bif Nat.beq k 0 then 0 else k) (N' := 4) hC .func (.cons (.tmp rfl) .nil) (.own (by first | rfl | simp) .end) (err_c c1.length c1 e1 rfl hc8 (by omega)) glob_nil (mr_cons (by first | exact ren_blkI | exact ren_rowI | exact Blk.ren_free (by simp) _ | rfl) rfl mr_nil) (mr_cons (by first | exact ren_blkI | exact ren_rowI | exact Blk.ren_free (by simp) _ | rfl) rfl mr_nil) rfl (rd_cons rfl rd_nil) rfl rfl rfl rfl (by first | exact .inl rfl | exact .inr ⟨by simp, (nv_cons (by first | exact novsL_I _ | simp) nv_nil)⟩) rfl (dst_ok rfl rfl) (fun t => setE_cons _ _ _ _))) ?_
            refine WD_cons (.yes rfl rfl (by decide) rfl (oc_field hC (.tmp rfl) fld_45_1 (by decide) (by first | exact .p (Nat.zero_add _) | exact .p rfl | exact .rp (by decide)) rfl rfl)) ?_
            refine WD_cons (.yes rfl rfl (by decide) rfl (oc_load hC (.tmp rfl) (by first | exact .p rfl | exact .rp) shp_27 (by first | exact unit_one rfl | exact unit_I (by first | omega | (simp; omega)) | exact unit_c rfl (by decide) | exact unit_c rfl (by simp)) rfl rfl)) ?_
            refine WD_cons (.yes rfl rfl (by decide) rfl (ox_cmp hC rfl (.tmp rfl) (.tmp rfl) (r := false) (by simp [cmpI]) rfl rfl)) ?_
            refine WD_cons (.plain rfl (ox_pick hC (.tmp rfl) .cbool (.tmp rfl) (by first | exact pick_t | exact pick_f | rfl) rfl rfl)) ?_
            refine WD_nil (by kernel_rfl) ?_
            refine W_cond rfl (by decide) (fun hc => by cases hc) (fun _ => ?_)
            refine W_skip ?_
            refine W_region ?_
            refine WL_cons hC.fn (.plain rfl (oc_bin hC rfl (.tmp rfl) .cint (by first | exact i64_add (by omega) | rfl) rfl rfl)) ?_
            refine WL_cons hC.fn (.plain rfl (oc_move hC (.tmp rfl) rfl rfl)) ?_
            refine WL_nil ?_
            exact ⟨(c1, s1, e1, i + 1), ⟨by show i + 1 ≤ _; omega, hc8, hs8, by show c1.length ≤ 2000; omega, by show s1.length ≤ 2000; omega, heq⟩, (weak (fun k => k) (.cons rfl (by first | rfl | simp) (by show _ < _; decide) (.cons rfl (by first | rfl | simp) (by show _ < _; decide) (.cons rfl (by first | exact ren_agI | exact ren_vsI | exact ren_free _ _ (by first | exact inSL_I _ | simp)) (by first | exact inSL_I _ | simp) (.cons rfl (by first | rfl | exact congrArg (AV.i _) (by omega) | exact congrArg (AV.i _) (by simp; omega)) trivial (.cons rfl (by first | rfl | exact congrArg (AV.i _) (by omega) | exact congrArg (AV.i _) (by simp; omega)) trivial .nil))))) (.cons rfl (Blk.ren_free (by simp) _) rfl (by first | exact inSL_I _ | simp) (.cons rfl (Blk.ren_free (by simp) _) rfl (by first | exact inSL_I _ | simp) .nil)) rfl rfl rfl), (by show D.length - (i + 1) < D.length - i; omega)⟩
          ·
            refine W_region ?_
            refine WL_cons hC.fn (.plain rfl (ox_cmp hC rfl (.tmp rfl) .cint (r := false) (by simp only [cmpI]; exact decide_eq_false (by omega)) rfl rfl)) ?_
            refine WL_cons hC.fn (.plain rfl (oc_assign hC (.tmp rfl) rfl rfl)) ?_
            refine WL_nil ?_
            refine W_cond rfl (by decide) (fun hc => by cases hc) (fun _ => ?_)
            refine W_seq ?_
            rcases (show (D.getD i (0, 0)).1 = 3 ∨ (D.getD i (0, 0)).1 ≠ 3 by omega) with hv | hv
            ·
              have hc2 := hR.2.2.2.1
              have hs2 := hR.2.2.2.2.1
              obtain ⟨v, hvc, hvs⟩ := both_end hR.2.2.2.2.2
              refine W_region ?_
              refine WL_cons hC.fn (.plain rfl (ox_cmp hC rfl (.tmp rfl) .cint (r := true) (by simp only [cmpI]; exact decide_eq_true (by omega)) rfl rfl)) ?_
              refine WL_cons hC.fn (.plain rfl (oc_assign hC (.tmp rfl) rfl rfl)) ?_
              refine WL_nil ?_
              refine W_cond rfl (by decide) (fun _ => ?_) (fun hc => by cases hc)
              refine W_drawD hC ?_
              refine WD_cons (.plain rfl (oc_move hC (.tmp rfl) rfl rfl)) ?_
              refine WD_cons (.plain rfl (oc_callG (τ := fun k => bif Nat.beq k 0 then 0 else k) (N' := 3) hC .func (.cons (.tmp rfl) .nil) (.own (by first | rfl | simp) .end) (end_c c.length c e rfl hR.2.1 (by omega) v hvc) glob_nil (mr_cons (by first | exact ren_blkI | exact ren_rowI | exact Blk.ren_free (by simp) _ | rfl) rfl mr_nil) (mr_cons (by first | exact ren_blkI | exact ren_rowI | exact Blk.ren_free (by simp) _ | rfl) rfl mr_nil) rfl (rd_cons rfl rd_nil) rfl rfl rfl rfl (by first | exact .inl rfl | exact .inr ⟨by simp, (nv_cons (by first | exact novsL_I _ | simp) nv_nil)⟩) rfl (dst_ok rfl rfl) (fun t => setE_cons _ _ _ _))) ?_
              refine WD_cons (.plain rfl (oc_load hC (v := .ag [.vs s.length (I .u8 s), .i .i64 e]) (.tmp rfl) (by first | exact .p rfl | exact .rp) shp_45 (by exact (unit_agg rfl)) rfl rfl)) ?_
              refine WD_cons (.plain rfl (oc_call hC (.cons (.tmp rfl) .nil) (.cons1 (.free (by first | exact inSL_I _ | simp)) (.same (by first | exact inSL_I _ | simp))) (rend_c s.length s e rfl hR.2.2.1 (by omega) v hvs) glob_nil (by first | exact inSL_I _ | simp) (by first | exact .inl rfl | exact .inr (by simp)) rfl rfl)) ?_
              refine WD_cons (.plain rfl (ox_cmp hC rfl (.tmp rfl) (.tmp rfl) (r := true) (by simp [cmpI]) rfl rfl)) ?_
              refine WD_cons (.plain rfl (oc_assign hC (.tmp rfl) rfl rfl)) ?_
              refine WD_nil (by kernel_rfl) ?_
              refine W_seq ?_
              refine W_drawD hC ?_
              refine WD_cons (.plain rfl (oc_move hC (.tmp rfl) rfl rfl)) ?_
              refine WD_cons (.plain rfl (oc_not hC (.tmp rfl) rfl rfl)) ?_
              refine WD_cons (.plain rfl (oc_move hC (.tmp rfl) rfl rfl)) ?_
              refine WD_cons (.yes rfl rfl (by decide) rfl (oc_move hC (.tmp rfl) rfl rfl)) ?_
              refine WD_cons (.yes rfl rfl (by decide) rfl (oc_callG (τ := fun k => bif Nat.beq k 0 then 0 else k) (N' := 3) hC .func (.cons (.tmp rfl) .nil) (.own (by first | rfl | simp) .end) (err_c c.length c e rfl hR.2.1 (by omega)) glob_nil (mr_cons (by first | exact ren_blkI | exact ren_rowI | exact Blk.ren_free (by simp) _ | rfl) rfl mr_nil) (mr_cons (by first | exact ren_blkI | exact ren_rowI | exact Blk.ren_free (by simp) _ | rfl) rfl mr_nil) rfl (rd_cons rfl rd_nil) rfl rfl rfl rfl (by first | exact .inl rfl | exact .inr ⟨by simp, (nv_cons (by first | exact novsL_I _ | simp) nv_nil)⟩) rfl (dst_ok rfl rfl) (fun t => setE_cons _ _ _ _))) ?_
              refine WD_cons (.yes rfl rfl (by decide) rfl (oc_field hC (.tmp rfl) fld_45_1 (by decide) (by first | exact .p (Nat.zero_add _) | exact .p rfl | exact .rp (by decide)) rfl rfl)) ?_
              refine WD_cons (.yes rfl rfl (by decide) rfl (oc_load hC (.tmp rfl) (by first | exact .p rfl | exact .rp) shp_27 (by first | exact unit_one rfl | exact unit_I (by first | omega | (simp; omega)) | exact unit_c rfl (by decide) | exact unit_c rfl (by simp)) rfl rfl)) ?_
              refine WD_cons (.yes rfl rfl (by decide) rfl (ox_cmp hC rfl (.tmp rfl) (.tmp rfl) (r := false) (by simp [cmpI]) rfl rfl)) ?_
              refine WD_cons (.plain rfl (ox_pick hC (.tmp rfl) .cbool (.tmp rfl) (by first | exact pick_t | exact pick_f | rfl) rfl rfl)) ?_
              refine WD_nil (by kernel_rfl) ?_
              refine W_cond rfl (by decide) (fun hc => by cases hc) (fun _ => ?_)
              refine W_skip ?_
              refine W_region ?_
              refine WL_cons hC.fn (.plain rfl (oc_bin hC rfl (.tmp rfl) .cint (by first | exact i64_add (by omega) | rfl) rfl rfl)) ?_
              refine WL_cons hC.fn (.plain rfl (oc_move hC (.tmp rfl) rfl rfl)) ?_
              refine WL_nil ?_
              exact ⟨(c, s, e, i + 1), ⟨by show i + 1 ≤ _; omega, hR.2.1, hR.2.2.1, by show c.length ≤ 2000; omega, by show s.length ≤ 2000; omega, hR.2.2.2.2.2⟩, (weak (fun k => k) (.cons rfl (by first | rfl | simp) (by show _ < _; decide) (.cons rfl (by first | rfl | simp) (by show _ < _; decide) (.cons rfl (by first | exact ren_agI | exact ren_vsI | exact ren_free _ _ (by first | exact inSL_I _ | simp)) (by first | exact inSL_I _ | simp) (.cons rfl (by first | rfl | exact congrArg (AV.i _) (by omega) | exact congrArg (AV.i _) (by simp; omega)) trivial (.cons rfl (by first | rfl | exact congrArg (AV.i _) (by omega) | exact congrArg (AV.i _) (by simp; omega)) trivial .nil))))) (.cons rfl (Blk.ren_free (by simp) _) rfl (by first | exact inSL_I _ | simp) (.cons rfl (Blk.ren_free (by simp) _) rfl (by first | exact inSL_I _ | simp) .nil)) rfl rfl rfl), (by show D.length - (i + 1) < D.length - i; omega)⟩
            ·
              refine W_region ?_
              refine WL_cons hC.fn (.plain rfl (ox_cmp hC rfl (.tmp rfl) .cint (r := false) (by simp only [cmpI]; exact decide_eq_false (by omega)) rfl rfl)) ?_
              refine WL_cons hC.fn (.plain rfl (oc_assign hC (.tmp rfl) rfl rfl)) ?_
              refine WL_nil ?_
              refine W_cond rfl (by decide) (fun hc => by cases hc) (fun _ => ?_)
              refine W_seq ?_
              rcases (show (D.getD i (0, 0)).1 = 4 ∨ (D.getD i (0, 0)).1 ≠ 4 by omega) with hv | hv
              ·
                have hc2 := hR.2.2.2.1
                have hs2 := hR.2.2.2.2.1
                refine W_region ?_
                refine WL_cons hC.fn (.plain rfl (ox_cmp hC rfl (.tmp rfl) .cint (r := true) (by simp only [cmpI]; exact decide_eq_true (by omega)) rfl rfl)) ?_
                refine WL_cons hC.fn (.plain rfl (oc_assign hC (.tmp rfl) rfl rfl)) ?_
                refine WL_nil ?_
                refine W_cond rfl (by decide) (fun _ => ?_) (fun hc => by cases hc)
                refine W_seq ?_
                refine W_region ?_
                refine WL_cons hC.fn (.plain rfl (oc_field hC (.tmp rfl) fld_45_0 (by decide) (by first | exact .p (Nat.zero_add _) | exact .p rfl | exact .rp (by decide)) rfl rfl)) ?_
                refine WL_cons hC.fn (.plain rfl (oc_load hC (.tmp rfl) (by first | exact .p rfl | exact .rp) shp_22 (by first | exact unit_one rfl | exact unit_I (by first | omega | (simp; omega)) | exact unit_c rfl (by decide) | exact unit_c rfl (by simp)) rfl rfl)) ?_
                refine WL_cons hC.fn (.plain rfl (ox_len hC (.tmp rfl) (by first | exact .row rfl | exact .vs | exact .sl rfl | exact .nils) Try.underlying22 (r := (s.length : Int)) rfl rfl rfl)) ?_
                refine WL_cons hC.fn (.plain rfl (oc_assign hC (.tmp rfl) rfl rfl)) ?_
                refine WL_nil ?_
                refine W_seq ?_
                refine W_seq ?_
                rcases (show e ≠ 0 ∨ e = 0 by omega) with h1 | h1
                ·
                  refine W_region ?_
                  refine WL_cons hC.fn (.plain rfl (oc_field hC (.tmp rfl) fld_45_1 (by decide) (by first | exact .p (Nat.zero_add _) | exact .p rfl | exact .rp (by decide)) rfl rfl)) ?_
                  refine WL_cons hC.fn (.plain rfl (oc_load hC (.tmp rfl) (by first | exact .p rfl | exact .rp) shp_27 (by first | exact unit_one rfl | exact unit_I (by first | omega | (simp; omega)) | exact unit_c rfl (by decide) | exact unit_c rfl (by simp)) rfl rfl)) ?_
                  refine WL_cons hC.fn (.plain rfl (ox_cmp hC rfl (.tmp rfl) .cint (r := true) (by simp only [cmpI]; exact decide_eq_true (by omega)) rfl rfl)) ?_
                  refine WL_nil ?_
                  refine W_cond rfl (by decide) (fun _ => ?_) (fun hc => by cases hc)
                  refine W_region ?_
                  refine WL_cons hC.fn (.plain rfl (oc_assign hC .cint rfl rfl)) ?_
                  refine WL_nil ?_
                  refine W_region ?_
                  refine WL_cons hC.fn (.plain rfl (oc_move hC (.tmp rfl) rfl rfl)) ?_
                  refine WL_cons hC.fn (.plain rfl (oc_callG (τ := fun k => bif Nat.beq k 0 then 0 else k) (N' := 3) hC .func (.cons (.tmp rfl) .nil) (.own (by first | rfl | simp) .end) (left_c c.length c e rfl hR.2.1 (by omega) 0 (.inr ⟨h1, rfl⟩)) glob_nil (mr_cons (by first | exact ren_blkI | exact ren_rowI | exact Blk.ren_free (by simp) _ | rfl) rfl mr_nil) (mr_cons (by first | exact ren_blkI | exact ren_rowI | exact Blk.ren_free (by simp) _ | rfl) rfl mr_nil) rfl (rd_cons rfl rd_nil) rfl rfl rfl rfl (by first | exact .inl rfl | exact .inr ⟨by simp, (nv_cons (by first | exact novsL_I _ | simp) nv_nil)⟩) rfl (dst_ok rfl rfl) (fun t => setE_cons _ _ _ _))) ?_
                  refine WL_cons hC.fn (.plain rfl (oc_move hC (.tmp rfl) rfl rfl)) ?_
                  refine WL_cons hC.fn (.plain rfl (ox_cmp hC rfl (.tmp rfl) (.tmp rfl) (r := true) rfl rfl rfl)) ?_
                  refine WL_cons hC.fn (.plain rfl (oc_assign hC (.tmp rfl) rfl rfl)) ?_
                  refine WL_nil ?_
                  refine W_seq ?_
                  refine W_drawD hC ?_
                  refine WD_cons (.plain rfl (oc_move hC (.tmp rfl) rfl rfl)) ?_
                  refine WD_cons (.plain rfl (oc_not hC (.tmp rfl) rfl rfl)) ?_
                  refine WD_cons (.plain rfl (oc_move hC (.tmp rfl) rfl rfl)) ?_
                  refine WD_cons (.yes rfl rfl (by decide) rfl (oc_move hC (.tmp rfl) rfl rfl)) ?_
                  refine WD_cons (.yes rfl rfl (by decide) rfl (oc_callG (τ := fun k => bif Nat.beq k 0 then 0 else k) (N' := 3) hC .func (.cons (.tmp rfl) .nil) (.own (by first | rfl | simp) .end) (err_c c.length c e rfl hR.2.1 (by omega)) glob_nil (mr_cons (by first | exact ren_blkI | exact ren_rowI | exact Blk.ren_free (by simp) _ | rfl) rfl mr_nil) (mr_cons (by first | exact ren_blkI | exact ren_rowI | exact Blk.ren_free (by simp) _ | rfl) rfl mr_nil) rfl (rd_cons rfl rd_nil) rfl rfl rfl rfl (by first | exact .inl rfl | exact .inr ⟨by simp, (nv_cons (by first | exact novsL_I _ | simp) nv_nil)⟩) rfl (dst_ok rfl rfl) (fun t => setE_cons _ _ _ _))) ?_
                  refine WD_cons (.yes rfl rfl (by decide) rfl (oc_field hC (.tmp rfl) fld_45_1 (by decide) (by first | exact .p (Nat.zero_add _) | exact .p rfl | exact .rp (by decide)) rfl rfl)) ?_
                  refine WD_cons (.yes rfl rfl (by decide) rfl (oc_load hC (.tmp rfl) (by first | exact .p rfl | exact .rp) shp_27 (by first | exact unit_one rfl | exact unit_I (by first | omega | (simp; omega)) | exact unit_c rfl (by decide) | exact unit_c rfl (by simp)) rfl rfl)) ?_
                  refine WD_cons (.yes rfl rfl (by decide) rfl (ox_cmp hC rfl (.tmp rfl) (.tmp rfl) (r := false) (by simp [cmpI]) rfl rfl)) ?_
                  refine WD_cons (.plain rfl (ox_pick hC (.tmp rfl) .cbool (.tmp rfl) (by first | exact pick_t | exact pick_f | rfl) rfl rfl)) ?_
                  refine WD_nil (by kernel_rfl) ?_
                  refine W_cond rfl (by decide) (fun hc => by cases hc) (fun _ => ?_)
                  refine W_skip ?_
                  refine W_region ?_
                  refine WL_cons hC.fn (.plain rfl (oc_bin hC rfl (.tmp rfl) .cint (by first | exact i64_add (by omega) | rfl) rfl rfl)) ?_
                  refine WL_cons hC.fn (.plain rfl (oc_move hC (.tmp rfl) rfl rfl)) ?_
                  refine WL_nil ?_
                  exact ⟨(c, s, e, i + 1), ⟨by show i + 1 ≤ _; omega, hR.2.1, hR.2.2.1, by show c.length ≤ 2000; omega, by show s.length ≤ 2000; omega, hR.2.2.2.2.2⟩, (weak (fun k => k) (.cons rfl (by first | rfl | simp) (by show _ < _; decide) (.cons rfl (by first | rfl | simp) (by show _ < _; decide) (.cons rfl (by first | exact ren_agI | exact ren_vsI | exact ren_free _ _ (by first | exact inSL_I _ | simp)) (by first | exact inSL_I _ | simp) (.cons rfl (by first | rfl | exact congrArg (AV.i _) (by omega) | exact congrArg (AV.i _) (by simp; omega)) trivial (.cons rfl (by first | rfl | exact congrArg (AV.i _) (by omega) | exact congrArg (AV.i _) (by simp; omega)) trivial .nil))))) (.cons rfl (Blk.ren_free (by simp) _) rfl (by first | exact inSL_I _ | simp) (.cons rfl (Blk.ren_free (by simp) _) rfl (by first | exact inSL_I _ | simp) .nil)) rfl rfl rfl), (by show D.length - (i + 1) < D.length - i; omega)⟩
                ·
                  refine W_region ?_
                  refine WL_cons hC.fn (.plain rfl (oc_field hC (.tmp rfl) fld_45_1 (by decide) (by first | exact .p (Nat.zero_add _) | exact .p rfl | exact .rp (by decide)) rfl rfl)) ?_
                  refine WL_cons hC.fn (.plain rfl (oc_load hC (.tmp rfl) (by first | exact .p rfl | exact .rp) shp_27 (by first | exact unit_one rfl | exact unit_I (by first | omega | (simp; omega)) | exact unit_c rfl (by decide) | exact unit_c rfl (by simp)) rfl rfl)) ?_
                  refine WL_cons hC.fn (.plain rfl (ox_cmp hC rfl (.tmp rfl) .cint (r := false) (by simp only [cmpI]; exact decide_eq_false (by omega)) rfl rfl)) ?_
                  refine WL_nil ?_
                  refine W_cond rfl (by decide) (fun hc => by cases hc) (fun _ => ?_)
                  refine W_skip ?_
                  refine W_region ?_
                  refine WL_cons hC.fn (.plain rfl (oc_move hC (.tmp rfl) rfl rfl)) ?_
                  refine WL_cons hC.fn (.plain rfl (oc_callG (τ := fun k => bif Nat.beq k 0 then 0 else k) (N' := 3) hC .func (.cons (.tmp rfl) .nil) (.own (by first | rfl | simp) .end) (left_c c.length c e rfl hR.2.1 (by omega) c.length (.inl ⟨h1, rfl⟩)) glob_nil (mr_cons (by first | exact ren_blkI | exact ren_rowI | exact Blk.ren_free (by simp) _ | rfl) rfl mr_nil) (mr_cons (by first | exact ren_blkI | exact ren_rowI | exact Blk.ren_free (by simp) _ | rfl) rfl mr_nil) rfl (rd_cons rfl rd_nil) rfl rfl rfl rfl (by first | exact .inl rfl | exact .inr ⟨by simp, (nv_cons (by first | exact novsL_I _ | simp) nv_nil)⟩) rfl (dst_ok rfl rfl) (fun t => setE_cons _ _ _ _))) ?_
                  refine WL_cons hC.fn (.plain rfl (oc_move hC (.tmp rfl) rfl rfl)) ?_
                  refine WL_cons hC.fn (.plain rfl (ox_cmp hC rfl (.tmp rfl) (.tmp rfl) (r := true) (by rw [hR.2.2.2.2.2 h1]; simp [cmpI]) rfl rfl)) ?_
                  refine WL_cons hC.fn (.plain rfl (oc_assign hC (.tmp rfl) rfl rfl)) ?_
                  refine WL_nil ?_
                  refine W_seq ?_
                  refine W_drawD hC ?_
                  refine WD_cons (.plain rfl (oc_move hC (.tmp rfl) rfl rfl)) ?_
                  refine WD_cons (.plain rfl (oc_not hC (.tmp rfl) rfl rfl)) ?_
                  refine WD_cons (.plain rfl (oc_move hC (.tmp rfl) rfl rfl)) ?_
                  refine WD_cons (.yes rfl rfl (by decide) rfl (oc_move hC (.tmp rfl) rfl rfl)) ?_
                  refine WD_cons (.yes rfl rfl (by decide) rfl (oc_callG (τ := fun k => bif Nat.beq k 0 then 0 else k) (N' := 3) hC .func (.cons (.tmp rfl) .nil) (.own (by first | rfl | simp) .end) (err_c c.length c e rfl hR.2.1 (by omega)) glob_nil (mr_cons (by first | exact ren_blkI | exact ren_rowI | exact Blk.ren_free (by simp) _ | rfl) rfl mr_nil) (mr_cons (by first | exact ren_blkI | exact ren_rowI | exact Blk.ren_free (by simp) _ | rfl) rfl mr_nil) rfl (rd_cons rfl rd_nil) rfl rfl rfl rfl (by first | exact .inl rfl | exact .inr ⟨by simp, (nv_cons (by first | exact novsL_I _ | simp) nv_nil)⟩) rfl (dst_ok rfl rfl) (fun t => setE_cons _ _ _ _))) ?_
                  refine WD_cons (.yes rfl rfl (by decide) rfl (oc_field hC (.tmp rfl) fld_45_1 (by decide) (by first | exact .p (Nat.zero_add _) | exact .p rfl | exact .rp (by decide)) rfl rfl)) ?_
                  refine WD_cons (.yes rfl rfl (by decide) rfl (oc_load hC (.tmp rfl) (by first | exact .p rfl | exact .rp) shp_27 (by first | exact unit_one rfl | exact unit_I (by first | omega | (simp; omega)) | exact unit_c rfl (by decide) | exact unit_c rfl (by simp)) rfl rfl)) ?_
                  refine WD_cons (.yes rfl rfl (by decide) rfl (ox_cmp hC rfl (.tmp rfl) (.tmp rfl) (r := false) (by simp [cmpI]) rfl rfl)) ?_
                  refine WD_cons (.plain rfl (ox_pick hC (.tmp rfl) .cbool (.tmp rfl) (by first | exact pick_t | exact pick_f | rfl) rfl rfl)) ?_
                  refine WD_nil (by kernel_rfl) ?_
                  refine W_cond rfl (by decide) (fun hc => by cases hc) (fun _ => ?_)
                  refine W_skip ?_
                  refine W_region ?_
                  refine WL_cons hC.fn (.plain rfl (oc_bin hC rfl (.tmp rfl) .cint (by first | exact i64_add (by omega) | rfl) rfl rfl)) ?_
                  refine WL_cons hC.fn (.plain rfl (oc_move hC (.tmp rfl) rfl rfl)) ?_
                  refine WL_nil ?_
                  exact ⟨(c, s, e, i + 1), ⟨by show i + 1 ≤ _; omega, hR.2.1, hR.2.2.1, by show c.length ≤ 2000; omega, by show s.length ≤ 2000; omega, hR.2.2.2.2.2⟩, (weak (fun k => k) (.cons rfl (by first | rfl | simp) (by show _ < _; decide) (.cons rfl (by first | rfl | simp) (by show _ < _; decide) (.cons rfl (by first | exact ren_agI | exact ren_vsI | exact ren_free _ _ (by first | exact inSL_I _ | simp)) (by first | exact inSL_I _ | simp) (.cons rfl (by first | rfl | exact congrArg (AV.i _) (by omega) | exact congrArg (AV.i _) (by simp; omega)) trivial (.cons rfl (by first | rfl | exact congrArg (AV.i _) (by omega) | exact congrArg (AV.i _) (by simp; omega)) trivial .nil))))) (.cons rfl (Blk.ren_free (by simp) _) rfl (by first | exact inSL_I _ | simp) (.cons rfl (Blk.ren_free (by simp) _) rfl (by first | exact inSL_I _ | simp) .nil)) rfl rfl rfl), (by show D.length - (i + 1) < D.length - i; omega)⟩
              ·
                refine W_region ?_
                refine WL_cons hC.fn (.plain rfl (ox_cmp hC rfl (.tmp rfl) .cint (r := false) (by simp only [cmpI]; exact decide_eq_false (by omega)) rfl rfl)) ?_
                refine WL_cons hC.fn (.plain rfl (oc_assign hC (.tmp rfl) rfl rfl)) ?_
                refine WL_nil ?_
                refine W_cond rfl (by decide) (fun hc => by cases hc) (fun _ => ?_)
                refine W_seq ?_
                rcases (show (D.getD i (0, 0)).1 = 5 ∨ (D.getD i (0, 0)).1 ≠ 5 by omega) with hv | hv
                ·
                  have hc2 := hR.2.2.2.1
                  have hs2 := hR.2.2.2.2.1
                  refine W_region ?_
                  refine WL_cons hC.fn (.plain rfl (ox_cmp hC rfl (.tmp rfl) .cint (r := true) (by simp only [cmpI]; exact decide_eq_true (by omega)) rfl rfl)) ?_
                  refine WL_cons hC.fn (.plain rfl (oc_assign hC (.tmp rfl) rfl rfl)) ?_
                  refine WL_nil ?_
                  refine W_cond rfl (by decide) (fun _ => ?_) (fun hc => by cases hc)
                  refine W_seq ?_
                  refine W_seq ?_
                  rcases (show e = 0 ∨ e ≠ 0 by omega) with h1 | h1
                  ·
                    refine W_region ?_
                    refine WL_cons hC.fn (.plain rfl (oc_field hC (.tmp rfl) fld_45_1 (by decide) (by first | exact .p (Nat.zero_add _) | exact .p rfl | exact .rp (by decide)) rfl rfl)) ?_
                    refine WL_cons hC.fn (.plain rfl (oc_load hC (.tmp rfl) (by first | exact .p rfl | exact .rp) shp_27 (by first | exact unit_one rfl | exact unit_I (by first | omega | (simp; omega)) | exact unit_c rfl (by decide) | exact unit_c rfl (by simp)) rfl rfl)) ?_
                    refine WL_cons hC.fn (.plain rfl (ox_cmp hC rfl (.tmp rfl) .cint (r := true) (by simp only [cmpI]; exact decide_eq_true (by omega)) rfl rfl)) ?_
                    refine WL_nil ?_
                    refine W_cond rfl (by decide) (fun _ => ?_) (fun hc => by cases hc)
                    refine W_region ?_
                    refine WL_cons hC.fn (.plain rfl (oc_field hC (.tmp rfl) fld_47_1 (by decide) (by first | exact .p (Nat.zero_add _) | exact .p rfl | exact .rp (by decide)) rfl rfl)) ?_
                    refine WL_cons hC.fn (.plain rfl (oc_load hC (.tmp rfl) (by first | exact .p rfl | exact .rp) shp_3 (by first | exact unit_one rfl | exact unit_I (by first | omega | (simp; omega)) | exact unit_c rfl (by decide) | exact unit_c rfl (by simp)) rfl rfl)) ?_
                    refine WL_cons hC.fn (.plain rfl (oc_field hC (.tmp rfl) fld_45_1 (by decide) (by first | exact .p (Nat.zero_add _) | exact .p rfl | exact .rp (by decide)) rfl rfl)) ?_
                    refine WL_cons hC.fn (.plain rfl (ox_store (bk' := .blk 45 [.vs s.length (I .u8 s), .i .i64 (D.getD i (0, 0)).2]) hC (.tmp rfl) (.tmp rfl) rfl shp_27 (by first | rfl | exact flat_agI) (by first | exact cells1 rfl | (rw [cells_ag, length_I]; omega) | rfl | (simp <;> fail) | (simp; omega)) (by first | exact Nat.le_refl _ | exact Nat.le_of_ble_eq_true rfl | decide | (simp <;> fail) | (simp; omega)) rfl (by first | exact .here | exact .there (.here) rfl | exact .there (.there (.here) rfl) rfl | exact .there (.there (.there (.here) rfl) rfl) rfl | exact .there (.there (.there (.there (.here) rfl) rfl) rfl) rfl | exact .there (.there (.there (.there (.there (.here) rfl) rfl) rfl) rfl) rfl | exact .there (.there (.there (.there (.there (.there (.here) rfl) rfl) rfl) rfl) rfl) rfl | exact .there (.there (.there (.there (.there (.there (.there (.here) rfl) rfl) rfl) rfl) rfl) rfl) rfl | exact .there (.there (.there (.there (.there (.there (.there (.there (.here) rfl) rfl) rfl) rfl) rfl) rfl) rfl) rfl | exact .there (.there (.there (.there (.there (.there (.there (.there (.there (.here) rfl) rfl) rfl) rfl) rfl) rfl) rfl) rfl) rfl) rfl)) ?_
                    refine WL_nil ?_
                    refine W_region ?_
                    refine WL_cons hC.fn (.plain rfl (oc_move hC (.tmp rfl) rfl rfl)) ?_
                    refine WL_cons hC.fn (.plain rfl (oc_field hC (.tmp rfl) fld_47_1 (by decide) (by first | exact .p (Nat.zero_add _) | exact .p rfl | exact .rp (by decide)) rfl rfl)) ?_
                    refine WL_cons hC.fn (.plain rfl (oc_load hC (.tmp rfl) (by first | exact .p rfl | exact .rp) shp_3 (by first | exact unit_one rfl | exact unit_I (by first | omega | (simp; omega)) | exact unit_c rfl (by decide) | exact unit_c rfl (by simp)) rfl rfl)) ?_
                    refine WL_cons hC.fn (.plain rfl (oc_callG (τ := fun k => bif Nat.beq k 0 then 0 else k) (N' := 3) hC .func (.cons (.tmp rfl) (.cons (.tmp rfl) .nil)) (.own (by first | rfl | simp) (.v1 (.free (by first | exact inSL_I _ | simp)) .end)) (fail_c c.length c e rfl hR.2.1 (by omega) (D.getD i (0, 0)).2 (D.getD i (0, 0)).2 (.inl ⟨h1, rfl⟩)) glob_nil (mr_cons (by first | exact ren_blkI | exact ren_rowI | exact Blk.ren_free (by simp) _ | rfl) rfl mr_nil) (mr_cons (by first | exact ren_blkI | exact ren_rowI | exact Blk.ren_free (by simp) _ | rfl) rfl mr_nil) rfl (rd_cons rfl rd_nil) rfl rfl rfl rfl (by first | exact .inl rfl | exact .inr ⟨by simp, (nv_cons (by first | exact novsL_I _ | simp) nv_nil)⟩) rfl (dst_ok rfl rfl) (fun t => setE_cons _ _ _ _))) ?_
                    refine WL_nil ?_
                    refine W_seq ?_
                    refine W_drawD hC ?_
                    refine WD_cons (.plain rfl (oc_move hC (.tmp rfl) rfl rfl)) ?_
                    refine WD_cons (.plain rfl (oc_not hC (.tmp rfl) rfl rfl)) ?_
                    refine WD_cons (.plain rfl (oc_move hC (.tmp rfl) rfl rfl)) ?_
                    refine WD_cons (.yes rfl rfl (by decide) rfl (oc_move hC (.tmp rfl) rfl rfl)) ?_
                    refine WD_cons (.yes rfl rfl (by decide) rfl (oc_callG (τ := fun k => bif Nat.beq k 0 then 0 else k) (N' := 3) hC .func (.cons (.tmp rfl) .nil) (.own (by first | rfl | simp) .end) (err_c c.length c (D.getD i (0, 0)).2 rfl hR.2.1 (by omega)) glob_nil (mr_cons (by first | exact ren_blkI | exact ren_rowI | exact Blk.ren_free (by simp) _ | rfl) rfl mr_nil) (mr_cons (by first | exact ren_blkI | exact ren_rowI | exact Blk.ren_free (by simp) _ | rfl) rfl mr_nil) rfl (rd_cons rfl rd_nil) rfl rfl rfl rfl (by first | exact .inl rfl | exact .inr ⟨by simp, (nv_cons (by first | exact novsL_I _ | simp) nv_nil)⟩) rfl (dst_ok rfl rfl) (fun t => setE_cons _ _ _ _))) ?_
                    refine WD_cons (.yes rfl rfl (by decide) rfl (oc_field hC (.tmp rfl) fld_45_1 (by decide) (by first | exact .p (Nat.zero_add _) | exact .p rfl | exact .rp (by decide)) rfl rfl)) ?_
                    refine WD_cons (.yes rfl rfl (by decide) rfl (oc_load hC (.tmp rfl) (by first | exact .p rfl | exact .rp) shp_27 (by first | exact unit_one rfl | exact unit_I (by first | omega | (simp; omega)) | exact unit_c rfl (by decide) | exact unit_c rfl (by simp)) rfl rfl)) ?_
                    refine WD_cons (.yes rfl rfl (by decide) rfl (ox_cmp hC rfl (.tmp rfl) (.tmp rfl) (r := false) (by simp [cmpI]) rfl rfl)) ?_
                    refine WD_cons (.plain rfl (ox_pick hC (.tmp rfl) .cbool (.tmp rfl) (by first | exact pick_t | exact pick_f | rfl) rfl rfl)) ?_
                    refine WD_nil (by kernel_rfl) ?_
                    refine W_cond rfl (by decide) (fun hc => by cases hc) (fun _ => ?_)
                    refine W_skip ?_
                    refine W_region ?_
                    refine WL_cons hC.fn (.plain rfl (oc_bin hC rfl (.tmp rfl) .cint (by first | exact i64_add (by omega) | rfl) rfl rfl)) ?_
                    refine WL_cons hC.fn (.plain rfl (oc_move hC (.tmp rfl) rfl rfl)) ?_
                    refine WL_nil ?_
                    exact ⟨(c, s, (D.getD i (0, 0)).2, i + 1), ⟨by show i + 1 ≤ _; omega, hR.2.1, hR.2.2.1, by show c.length ≤ 2000; omega, by show s.length ≤ 2000; omega, fun _ => hR.2.2.2.2.2 h1⟩, (weak (fun k => k) (.cons rfl (by first | rfl | simp) (by show _ < _; decide) (.cons rfl (by first | rfl | simp) (by show _ < _; decide) (.cons rfl (by first | exact ren_agI | exact ren_vsI | exact ren_free _ _ (by first | exact inSL_I _ | simp)) (by first | exact inSL_I _ | simp) (.cons rfl (by first | rfl | exact congrArg (AV.i _) (by omega) | exact congrArg (AV.i _) (by simp; omega)) trivial (.cons rfl (by first | rfl | exact congrArg (AV.i _) (by omega) | exact congrArg (AV.i _) (by simp; omega)) trivial .nil))))) (.cons rfl (Blk.ren_free (by simp) _) rfl (by first | exact inSL_I _ | simp) (.cons rfl (Blk.ren_free (by simp) _) rfl (by first | exact inSL_I _ | simp) .nil)) rfl rfl rfl), (by show D.length - (i + 1) < D.length - i; omega)⟩
                  ·
                    refine W_region ?_
                    refine WL_cons hC.fn (.plain rfl (oc_field hC (.tmp rfl) fld_45_1 (by decide) (by first | exact .p (Nat.zero_add _) | exact .p rfl | exact .rp (by decide)) rfl rfl)) ?_
                    refine WL_cons hC.fn (.plain rfl (oc_load hC (.tmp rfl) (by first | exact .p rfl | exact .rp) shp_27 (by first | exact unit_one rfl | exact unit_I (by first | omega | (simp; omega)) | exact unit_c rfl (by decide) | exact unit_c rfl (by simp)) rfl rfl)) ?_
                    refine WL_cons hC.fn (.plain rfl (ox_cmp hC rfl (.tmp rfl) .cint (r := false) (by simp only [cmpI]; exact decide_eq_false (by omega)) rfl rfl)) ?_
                    refine WL_nil ?_
                    refine W_cond rfl (by decide) (fun hc => by cases hc) (fun _ => ?_)
                    refine W_skip ?_
                    refine W_region ?_
                    refine WL_cons hC.fn (.plain rfl (oc_move hC (.tmp rfl) rfl rfl)) ?_
                    refine WL_cons hC.fn (.plain rfl (oc_field hC (.tmp rfl) fld_47_1 (by decide) (by first | exact .p (Nat.zero_add _) | exact .p rfl | exact .rp (by decide)) rfl rfl)) ?_
                    refine WL_cons hC.fn (.plain rfl (oc_load hC (.tmp rfl) (by first | exact .p rfl | exact .rp) shp_3 (by first | exact unit_one rfl | exact unit_I (by first | omega | (simp; omega)) | exact unit_c rfl (by decide) | exact unit_c rfl (by simp)) rfl rfl)) ?_
                    refine WL_cons hC.fn (.plain rfl (oc_callG (τ := fun k => bif Nat.beq k 0 then 0 else k) (N' := 3) hC .func (.cons (.tmp rfl) (.cons (.tmp rfl) .nil)) (.own (by first | rfl | simp) (.v1 (.free (by first | exact inSL_I _ | simp)) .end)) (fail_c c.length c e rfl hR.2.1 (by omega) (D.getD i (0, 0)).2 e (.inr ⟨h1, rfl⟩)) glob_nil (mr_cons (by first | exact ren_blkI | exact ren_rowI | exact Blk.ren_free (by simp) _ | rfl) rfl mr_nil) (mr_cons (by first | exact ren_blkI | exact ren_rowI | exact Blk.ren_free (by simp) _ | rfl) rfl mr_nil) rfl (rd_cons rfl rd_nil) rfl rfl rfl rfl (by first | exact .inl rfl | exact .inr ⟨by simp, (nv_cons (by first | exact novsL_I _ | simp) nv_nil)⟩) rfl (dst_ok rfl rfl) (fun t => setE_cons _ _ _ _))) ?_
                    refine WL_nil ?_
                    refine W_seq ?_
                    refine W_drawD hC ?_
                    refine WD_cons (.plain rfl (oc_move hC (.tmp rfl) rfl rfl)) ?_
                    refine WD_cons (.plain rfl (oc_not hC (.tmp rfl) rfl rfl)) ?_
                    refine WD_cons (.plain rfl (oc_move hC (.tmp rfl) rfl rfl)) ?_
                    refine WD_cons (.yes rfl rfl (by decide) rfl (oc_move hC (.tmp rfl) rfl rfl)) ?_
                    refine WD_cons (.yes rfl rfl (by decide) rfl (oc_callG (τ := fun k => bif Nat.beq k 0 then 0 else k) (N' := 3) hC .func (.cons (.tmp rfl) .nil) (.own (by first | rfl | simp) .end) (err_c c.length c e rfl hR.2.1 (by omega)) glob_nil (mr_cons (by first | exact ren_blkI | exact ren_rowI | exact Blk.ren_free (by simp) _ | rfl) rfl mr_nil) (mr_cons (by first | exact ren_blkI | exact ren_rowI | exact Blk.ren_free (by simp) _ | rfl) rfl mr_nil) rfl (rd_cons rfl rd_nil) rfl rfl rfl rfl (by first | exact .inl rfl | exact .inr ⟨by simp, (nv_cons (by first | exact novsL_I _ | simp) nv_nil)⟩) rfl (dst_ok rfl rfl) (fun t => setE_cons _ _ _ _))) ?_
                    refine WD_cons (.yes rfl rfl (by decide) rfl (oc_field hC (.tmp rfl) fld_45_1 (by decide) (by first | exact .p (Nat.zero_add _) | exact .p rfl | exact .rp (by decide)) rfl rfl)) ?_
                    refine WD_cons (.yes rfl rfl (by decide) rfl (oc_load hC (.tmp rfl) (by first | exact .p rfl | exact .rp) shp_27 (by first | exact unit_one rfl | exact unit_I (by first | omega | (simp; omega)) | exact unit_c rfl (by decide) | exact unit_c rfl (by simp)) rfl rfl)) ?_
                    refine WD_cons (.yes rfl rfl (by decide) rfl (ox_cmp hC rfl (.tmp rfl) (.tmp rfl) (r := false) (by simp [cmpI]) rfl rfl)) ?_
                    refine WD_cons (.plain rfl (ox_pick hC (.tmp rfl) .cbool (.tmp rfl) (by first | exact pick_t | exact pick_f | rfl) rfl rfl)) ?_
                    refine WD_nil (by kernel_rfl) ?_
                    refine W_cond rfl (by decide) (fun hc => by cases hc) (fun _ => ?_)
                    refine W_skip ?_
                    refine W_region ?_
                    refine WL_cons hC.fn (.plain rfl (oc_bin hC rfl (.tmp rfl) .cint (by first | exact i64_add (by omega) | rfl) rfl rfl)) ?_
                    refine WL_cons hC.fn (.plain rfl (oc_move hC (.tmp rfl) rfl rfl)) ?_
                    refine WL_nil ?_
                    exact ⟨(c, s, e, i + 1), ⟨by show i + 1 ≤ _; omega, hR.2.1, hR.2.2.1, by show c.length ≤ 2000; omega, by show s.length ≤ 2000; omega, hR.2.2.2.2.2⟩, (weak (fun k => k) (.cons rfl (by first | rfl | simp) (by show _ < _; decide) (.cons rfl (by first | rfl | simp) (by show _ < _; decide) (.cons rfl (by first | exact ren_agI | exact ren_vsI | exact ren_free _ _ (by first | exact inSL_I _ | simp)) (by first | exact inSL_I _ | simp) (.cons rfl (by first | rfl | exact congrArg (AV.i _) (by omega) | exact congrArg (AV.i _) (by simp; omega)) trivial (.cons rfl (by first | rfl | exact congrArg (AV.i _) (by omega) | exact congrArg (AV.i _) (by simp; omega)) trivial .nil))))) (.cons rfl (Blk.ren_free (by simp) _) rfl (by first | exact inSL_I _ | simp) (.cons rfl (Blk.ren_free (by simp) _) rfl (by first | exact inSL_I _ | simp) .nil)) rfl rfl rfl), (by show D.length - (i + 1) < D.length - i; omega)⟩
                ·
                  have hc2 := hR.2.2.2.1
                  have hs2 := hR.2.2.2.2.1
                  refine W_region ?_
                  refine WL_cons hC.fn (.plain rfl (ox_cmp hC rfl (.tmp rfl) .cint (r := false) (by simp only [cmpI]; exact decide_eq_false (by omega)) rfl rfl)) ?_
                  refine WL_cons hC.fn (.plain rfl (oc_assign hC (.tmp rfl) rfl rfl)) ?_
                  refine WL_nil ?_
                  refine W_cond rfl (by decide) (fun hc => by cases hc) (fun _ => ?_)
                  refine W_skip ?_
                  refine W_seq ?_
                  refine W_drawD hC ?_
                  refine WD_cons (.plain rfl (oc_move hC (.tmp rfl) rfl rfl)) ?_
                  refine WD_cons (.plain rfl (oc_not hC (.tmp rfl) rfl rfl)) ?_
                  refine WD_cons (.plain rfl (oc_move hC (.tmp rfl) rfl rfl)) ?_
                  refine WD_cons (.yes rfl rfl (by decide) rfl (oc_move hC (.tmp rfl) rfl rfl)) ?_
                  refine WD_cons (.yes rfl rfl (by decide) rfl (oc_callG (τ := fun k => bif Nat.beq k 0 then 0 else k) (N' := 3) hC .func (.cons (.tmp rfl) .nil) (.own (by first | rfl | simp) .end) (err_c c.length c e rfl hR.2.1 (by omega)) glob_nil (mr_cons (by first | exact ren_blkI | exact ren_rowI | exact Blk.ren_free (by simp) _ | rfl) rfl mr_nil) (mr_cons (by first | exact ren_blkI | exact ren_rowI | exact Blk.ren_free (by simp) _ | rfl) rfl mr_nil) rfl (rd_cons rfl rd_nil) rfl rfl rfl rfl (by first | exact .inl rfl | exact .inr ⟨by simp, (nv_cons (by first | exact novsL_I _ | simp) nv_nil)⟩) rfl (dst_ok rfl rfl) (fun t => setE_cons _ _ _ _))) ?_
                  refine WD_cons (.yes rfl rfl (by decide) rfl (oc_field hC (.tmp rfl) fld_45_1 (by decide) (by first | exact .p (Nat.zero_add _) | exact .p rfl | exact .rp (by decide)) rfl rfl)) ?_
                  refine WD_cons (.yes rfl rfl (by decide) rfl (oc_load hC (.tmp rfl) (by first | exact .p rfl | exact .rp) shp_27 (by first | exact unit_one rfl | exact unit_I (by first | omega | (simp; omega)) | exact unit_c rfl (by decide) | exact unit_c rfl (by simp)) rfl rfl)) ?_
                  refine WD_cons (.yes rfl rfl (by decide) rfl (ox_cmp hC rfl (.tmp rfl) (.tmp rfl) (r := false) (by simp [cmpI]) rfl rfl)) ?_
                  refine WD_cons (.plain rfl (ox_pick hC (.tmp rfl) .cbool (.tmp rfl) (by first | exact pick_t | exact pick_f | rfl) rfl rfl)) ?_
                  refine WD_nil (by kernel_rfl) ?_
                  refine W_cond rfl (by decide) (fun hc => by cases hc) (fun _ => ?_)
                  refine W_skip ?_
                  refine W_region ?_
                  refine WL_cons hC.fn (.plain rfl (oc_bin hC rfl (.tmp rfl) .cint (by first | exact i64_add (by omega) | rfl) rfl rfl)) ?_
                  refine WL_cons hC.fn (.plain rfl (oc_move hC (.tmp rfl) rfl rfl)) ?_
                  refine WL_nil ?_
                  exact ⟨(c, s, e, i + 1), ⟨by show i + 1 ≤ _; omega, hR.2.1, hR.2.2.1, by show c.length ≤ 2000; omega, by show s.length ≤ 2000; omega, hR.2.2.2.2.2⟩, (weak (fun k => k) (.cons rfl (by first | rfl | simp) (by show _ < _; decide) (.cons rfl (by first | rfl | simp) (by show _ < _; decide) (.cons rfl (by first | exact ren_agI | exact ren_vsI | exact ren_free _ _ (by first | exact inSL_I _ | simp)) (by first | exact inSL_I _ | simp) (.cons rfl (by first | rfl | exact congrArg (AV.i _) (by omega) | exact congrArg (AV.i _) (by simp; omega)) trivial (.cons rfl (by first | rfl | exact congrArg (AV.i _) (by omega) | exact congrArg (AV.i _) (by simp; omega)) trivial .nil))))) (.cons rfl (Blk.ren_free (by simp) _) rfl (by first | exact inSL_I _ | simp) (.cons rfl (Blk.ren_free (by simp) _) rfl (by first | exact inSL_I _ | simp) .nil)) rfl rfl rfl), (by show D.length - (i + 1) < D.length - i; omega)⟩
    ·
      replace hc := lss_f hc
      refine W_exit ?_
      refine W_seq ?_
      refine W_region ?_
      refine WL_cons hC.fn (.plain rfl (oc_call hC .nil (.same (by first | exact inSL_I _ | simp)) (awake01_c) glob_nil (by first | exact inSL_I _ | simp) (by first | exact .inl rfl | exact .inr (by simp)) rfl rfl)) ?_
      refine WL_cons hC.fn (.plain rfl (oc_assign hC (.tmp rfl) rfl rfl)) ?_
      refine WL_nil ?_
      refine W_ret ?_
      exact fin0 (.cons (.tmp rfl) .nil) rfl trivial
end Go.Proofs.Ytakjepiamjbnbaa
