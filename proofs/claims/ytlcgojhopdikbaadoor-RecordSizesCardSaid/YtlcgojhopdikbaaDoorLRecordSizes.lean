/- Own work, printed by a program of this claim: walks through functions of the program. -/
import Derived.Test.YtlcgojhopdikbaaDoorW6
import Derived.Test.YtlcgojhopdikbaaDoorProg
import Derived.KernelRfl
set_option linter.unusedSimpArgs false
set_option linter.unusedVariables false
namespace Go.Proofs.YtlcgojhopdikbaaDoor
open Go.Sk Go.RowKit
attribute [local simp] AV.inSL AV.inS inSL_I Blk.inS Blk.cs AV.novs AV.novsL novsL_I AV.ren AV.cells AV.one lk tuAV


set_option maxRecDepth 20000 in
set_option maxHeartbeats 4000000 in
theorem law_RecordSizes (k : Int) (id : List Int) (v n : Int) (b : List Int) (hid : id.length = 16) (bid : B8 id) (bb : B8 b) : FnC Tryd.prog 5 [(1000000, .rp (I .u32 nibT))] [.ag (recX k id v n (bodyV b))] [] [] (.b true) := by
  refine FnC.introR (N0 := 0) (T := 52) (E := [(0, .ag (recX k id v n (bodyV b))), (1000000, .rp (I .u32 nibT))]) Tryd.func5 rfl (by decide) mix rfl rfl rfl (by simp) rfl ⟨(by first | exact inSL_I _ | trivial | simp), trivial⟩ (by simp) (by intro S _ _ h; simp) (fun F n0 X w ρ hC hro => ?_)
  refine wsr ?_
  refine wp rfl hC (ox_box hC (.tmp rfl) (flat_recX rfl) (by first | exact cells_ag | rfl) rfl rfl) ?_
  refine wp rfl hC (oc_assign hC .cbool rfl rfl) ?_
  refine WL_nil ?_
  refine W_seq ?_
  rcases (show (¬ RightR k v n b.length ∧ 500 < b.length) ∨ (¬ RightR k v n b.length ∧ b.length ≤ 500) ∨ (RightR k v n b.length ∧ 500 < b.length) ∨ (RightR k v n b.length ∧ b.length ≤ 127) ∨ (RightR k v n b.length ∧ 127 < b.length ∧ b.length ≤ 500) by unfold RightR; omega) with ⟨hR, h_⟩ | ⟨hR, h_⟩ | ⟨hR, h_⟩ | ⟨hR, h_⟩ | ⟨hR, h_⟩
  ·
    refine W_region ?_
    refine wp rfl hC (oc_load hC (.tmp rfl) (by first | exact .p rfl | exact .rp) shp_39 (by exact (unit_rall hid)) rfl rfl) ?_
    refine wp rfl hC (oc_call hC (.cons (.tmp rfl) .nil) (.cons1 (.free (by first | exact inSL_I _ | simp)) (.same (by first | exact inSL_I _ | simp))) (encodeno_c k id v n b hid bid bb hR) (glob_cons rfl rfl (by first | exact inSL_I _ | simp) glob_nil) (by first | exact inSL_I _ | simp) (by first | exact .inl rfl | exact .inr (by simp)) rfl rfl) ?_
    refine wp rfl hC (oc_move hC (.tmp rfl) rfl rfl) ?_
    refine wp rfl hC (oc_extract hC (.tmp rfl) rfl rfl rfl) ?_
    refine wp rfl hC (oc_extract hC (.tmp rfl) rfl rfl rfl) ?_
    refine wp rfl hC (oc_assign hC (.tmp rfl) rfl rfl) ?_
    refine wp rfl hC (oc_assign hC (.tmp rfl) rfl rfl) ?_
    refine WL_nil ?_
    refine W_seq ?_
    refine wsr ?_
    refine wp rfl hC (oc_field hC (.tmp rfl) fld_39_4 (by decide) (by first | exact .p (Nat.zero_add _) | exact .p rfl | exact .rp (by decide)) rfl rfl) ?_
    refine wp rfl hC (oc_load hC (.tmp rfl) (by first | exact .p rfl | exact .rp) shp_25 (by exact (unit_rz hid)) rfl rfl) ?_
    refine wp rfl hC (ox_len hC (.tmp rfl) (by first | exact .row rfl | exact .vs | exact .sl rfl | exact .nils) Tryd.underlying25 rfl rfl rfl) ?_
    refine wp rfl hC (ox_cmp hC rfl (.tmp rfl) .cint (r := true) (by simp only [cmpI]; exact decide_eq_true (by omega)) rfl rfl) ?_
    refine wp rfl hC (oc_move hC (.tmp rfl) rfl rfl) ?_
    refine WL_cons hC.fn (.no (s1 := ⟨_, (17, .tu []) :: _, _⟩) rfl rfl (by decide) rfl (by decide) (fun t ht => by cases ht; exact ⟨blt_lt rfl, blt_lt rfl⟩) (fun t => setE_cons _ _ _ _) rfl rfl) ?_
    refine WL_cons hC.fn (.no (s1 := ⟨_, (18, .tu []) :: _, _⟩) rfl rfl (by decide) rfl (by decide) (fun t ht => by cases ht; exact ⟨blt_lt rfl, blt_lt rfl⟩) (fun t => setE_cons _ _ _ _) rfl rfl) ?_
    refine wp rfl hC (ox_pick hC (.tmp rfl) .cbool (.tmp rfl) (by first | exact pick_t | exact pick_f | rfl) rfl rfl) ?_
    refine WL_nil ?_
    refine W_cond rfl (by decide) (fun _ => ?_) (fun hc => by cases hc)
    refine wsr ?_
    refine wp rfl hC (oc_call hC .nil (.same (by first | exact inSL_I _ | simp)) (awake14_c) (glob_cons rfl rfl (by first | exact inSL_I _ | simp) glob_nil) (by first | exact inSL_I _ | simp) (by first | exact .inl rfl | exact .inr (by simp)) rfl rfl) ?_
    refine wp rfl hC (oc_assign hC (.tmp rfl) rfl rfl) ?_
    refine WL_nil ?_
    refine W_ret ?_
    exact fin0 (.cons (.tmp rfl) .nil) rfl trivial
  ·
    refine W_region ?_
    refine wp rfl hC (oc_load hC (.tmp rfl) (by first | exact .p rfl | exact .rp) shp_39 (by exact (unit_rall hid)) rfl rfl) ?_
    refine wp rfl hC (oc_call hC (.cons (.tmp rfl) .nil) (.cons1 (.free (by first | exact inSL_I _ | simp)) (.same (by first | exact inSL_I _ | simp))) (encodeno_c k id v n b hid bid bb hR) (glob_cons rfl rfl (by first | exact inSL_I _ | simp) glob_nil) (by first | exact inSL_I _ | simp) (by first | exact .inl rfl | exact .inr (by simp)) rfl rfl) ?_
    refine wp rfl hC (oc_move hC (.tmp rfl) rfl rfl) ?_
    refine wp rfl hC (oc_extract hC (.tmp rfl) rfl rfl rfl) ?_
    refine wp rfl hC (oc_extract hC (.tmp rfl) rfl rfl rfl) ?_
    refine wp rfl hC (oc_assign hC (.tmp rfl) rfl rfl) ?_
    refine wp rfl hC (oc_assign hC (.tmp rfl) rfl rfl) ?_
    refine WL_nil ?_
    refine W_seq ?_
    refine wsr ?_
    refine wp rfl hC (oc_field hC (.tmp rfl) fld_39_4 (by decide) (by first | exact .p (Nat.zero_add _) | exact .p rfl | exact .rp (by decide)) rfl rfl) ?_
    refine wp rfl hC (oc_load hC (.tmp rfl) (by first | exact .p rfl | exact .rp) shp_25 (by exact (unit_rz hid)) rfl rfl) ?_
    refine wp rfl hC (ox_len hC (.tmp rfl) (by first | exact .row rfl | exact .vs | exact .sl rfl | exact .nils) Tryd.underlying25 rfl rfl rfl) ?_
    refine wp rfl hC (ox_cmp hC rfl (.tmp rfl) .cint (r := false) (by simp only [cmpI]; exact decide_eq_false (by omega)) rfl rfl) ?_
    refine wp rfl hC (oc_move hC (.tmp rfl) rfl rfl) ?_
    refine WL_cons hC.fn (.yes rfl rfl (by decide) rfl (oc_move hC (.tmp rfl) rfl rfl)) ?_
    refine WL_cons hC.fn (.yes rfl rfl (by decide) rfl (ox_cmp hC rfl (.tmp rfl) .cint (r := true) rfl rfl rfl)) ?_
    refine wp rfl hC (ox_pick hC (.tmp rfl) .cbool (.tmp rfl) (by first | exact pick_t | exact pick_f | rfl) rfl rfl) ?_
    refine WL_nil ?_
    refine W_cond rfl (by decide) (fun _ => ?_) (fun hc => by cases hc)
    refine wsr ?_
    refine wp rfl hC (oc_call hC .nil (.same (by first | exact inSL_I _ | simp)) (awake14_c) (glob_cons rfl rfl (by first | exact inSL_I _ | simp) glob_nil) (by first | exact inSL_I _ | simp) (by first | exact .inl rfl | exact .inr (by simp)) rfl rfl) ?_
    refine wp rfl hC (oc_assign hC (.tmp rfl) rfl rfl) ?_
    refine WL_nil ?_
    refine W_ret ?_
    exact fin0 (.cons (.tmp rfl) .nil) rfl trivial
  ·
    refine W_region ?_
    refine wp rfl hC (oc_load hC (.tmp rfl) (by first | exact .p rfl | exact .rp) shp_39 (by exact (unit_rall hid)) rfl rfl) ?_
    refine wp rfl hC (oc_callN hC (.cons (.tmp rfl) .nil) (.cons1 (.free (by first | exact inSL_I _ | simp)) (.same (by first | exact inSL_I _ | simp))) (encode_c k id v n b hid bid bb hR) (glob_cons rfl rfl (by first | exact inSL_I _ | simp) glob_nil) (by first | exact inSL_I _ | simp) rfl (by first | exact .inl rfl | exact .inr ⟨by simp, novsL_I _⟩ | exact .inr ⟨by simp, by simp⟩) rfl rfl) ?_
    refine wp rfl hC (oc_move hC (.tmp rfl) rfl rfl) ?_
    refine wp rfl hC (oc_extract hC (.tmp rfl) rfl rfl rfl) ?_
    refine wp rfl hC (oc_extract hC (.tmp rfl) rfl rfl rfl) ?_
    refine wp rfl hC (oc_assign hC (.tmp rfl) rfl rfl) ?_
    refine wp rfl hC (oc_assign hC (.tmp rfl) rfl rfl) ?_
    refine WL_nil ?_
    refine W_seq ?_
    refine wsr ?_
    refine wp rfl hC (oc_field hC (.tmp rfl) fld_39_4 (by decide) (by first | exact .p (Nat.zero_add _) | exact .p rfl | exact .rp (by decide)) rfl rfl) ?_
    refine wp rfl hC (oc_load hC (.tmp rfl) (by first | exact .p rfl | exact .rp) shp_25 (by exact (unit_rz hid)) rfl rfl) ?_
    refine wp rfl hC (ox_len hC (.tmp rfl) (by first | exact .row rfl | exact .vs | exact .sl rfl | exact .nils) Tryd.underlying25 rfl rfl rfl) ?_
    refine wp rfl hC (ox_cmp hC rfl (.tmp rfl) .cint (r := true) (by simp only [cmpI]; exact decide_eq_true (by omega)) rfl rfl) ?_
    refine wp rfl hC (oc_move hC (.tmp rfl) rfl rfl) ?_
    refine WL_cons hC.fn (.no (s1 := ⟨_, (17, .tu []) :: _, _⟩) rfl rfl (by decide) rfl (by decide) (fun t ht => by cases ht; exact ⟨blt_lt rfl, blt_lt rfl⟩) (fun t => setE_cons _ _ _ _) rfl rfl) ?_
    refine WL_cons hC.fn (.no (s1 := ⟨_, (18, .tu []) :: _, _⟩) rfl rfl (by decide) rfl (by decide) (fun t ht => by cases ht; exact ⟨blt_lt rfl, blt_lt rfl⟩) (fun t => setE_cons _ _ _ _) rfl rfl) ?_
    refine wp rfl hC (ox_pick hC (.tmp rfl) .cbool (.tmp rfl) (by first | exact pick_t | exact pick_f | rfl) rfl rfl) ?_
    refine WL_nil ?_
    refine W_cond rfl (by decide) (fun _ => ?_) (fun hc => by cases hc)
    refine wsr ?_
    refine wp rfl hC (oc_call hC .nil (.same (by first | exact inSL_I _ | simp)) (awake14_c) (glob_cons rfl rfl (by first | exact inSL_I _ | simp) glob_nil) (by first | exact inSL_I _ | simp) (by first | exact .inl rfl | exact .inr (by simp)) rfl rfl) ?_
    refine wp rfl hC (oc_assign hC (.tmp rfl) rfl rfl) ?_
    refine WL_nil ?_
    refine W_ret ?_
    exact fin0 (.cons (.tmp rfl) .nil) rfl trivial
  ·
    have hll := length_encL' hid hR
    have q1 := length_encL (k := k) (id := id) (v := v) (n := n) (b := b)
    have q2 := length_encB (k := k) (id := id) (v := v) (n := n) (b := b)
    have q4 : (encL k id v n b).take (hdrL k id v n).length = (hdrL k id v n) := by unfold encL encB; simp
    have q3 : (putV b.length).length = 1 := by rw [putV_eq, putN_lt (by omega)]; rfl
    refine W_region ?_
    refine wp rfl hC (oc_load hC (.tmp rfl) (by first | exact .p rfl | exact .rp) shp_39 (by exact (unit_rall hid)) rfl rfl) ?_
    refine wp rfl hC (oc_callN hC (.cons (.tmp rfl) .nil) (.cons1 (.free (by first | exact inSL_I _ | simp)) (.same (by first | exact inSL_I _ | simp))) (encode_c k id v n b hid bid bb hR) (glob_cons rfl rfl (by first | exact inSL_I _ | simp) glob_nil) (by first | exact inSL_I _ | simp) rfl (by first | exact .inl rfl | exact .inr ⟨by simp, novsL_I _⟩ | exact .inr ⟨by simp, by simp⟩) rfl rfl) ?_
    refine wp rfl hC (oc_move hC (.tmp rfl) rfl rfl) ?_
    refine wp rfl hC (oc_extract hC (.tmp rfl) rfl rfl rfl) ?_
    refine wp rfl hC (oc_extract hC (.tmp rfl) rfl rfl rfl) ?_
    refine wp rfl hC (oc_assign hC (.tmp rfl) rfl rfl) ?_
    refine wp rfl hC (oc_assign hC (.tmp rfl) rfl rfl) ?_
    refine WL_nil ?_
    refine W_seq ?_
    refine wsr ?_
    refine wp rfl hC (oc_field hC (.tmp rfl) fld_39_4 (by decide) (by first | exact .p (Nat.zero_add _) | exact .p rfl | exact .rp (by decide)) rfl rfl) ?_
    refine wp rfl hC (oc_load hC (.tmp rfl) (by first | exact .p rfl | exact .rp) shp_25 (by exact (unit_rz hid)) rfl rfl) ?_
    refine wp rfl hC (ox_len hC (.tmp rfl) (by first | exact .row rfl | exact .vs | exact .sl rfl | exact .nils) Tryd.underlying25 rfl rfl rfl) ?_
    refine wp rfl hC (ox_cmp hC rfl (.tmp rfl) .cint (r := false) (by simp only [cmpI]; exact decide_eq_false (by omega)) rfl rfl) ?_
    refine wp rfl hC (oc_move hC (.tmp rfl) rfl rfl) ?_
    refine WL_cons hC.fn (.yes rfl rfl (by decide) rfl (oc_move hC (.tmp rfl) rfl rfl)) ?_
    refine WL_cons hC.fn (.yes rfl rfl (by decide) rfl (ox_cmp hC rfl (.tmp rfl) .cint (r := false) rfl rfl rfl)) ?_
    refine wp rfl hC (ox_pick hC (.tmp rfl) .cbool (.tmp rfl) (by first | exact pick_t | exact pick_f | rfl) rfl rfl) ?_
    refine WL_nil ?_
    refine W_cond rfl (by decide) (fun hc => by cases hc) (fun _ => ?_)
    refine W_skip ?_
    refine wsr ?_
    refine wp rfl hC (oc_load hC (.tmp rfl) (by first | exact .p rfl | exact .rp) shp_39 (by exact (unit_rall hid)) rfl rfl) ?_
    refine wp rfl hC (oc_callN hC (.cons (.tmp rfl) .nil) (.cons1 (.free (by first | exact inSL_I _ | simp)) (.same (by first | exact inSL_I _ | simp))) (header_c k id v n b hid bid bb hR) glob_nil (by first | exact inSL_I _ | simp) rfl (by first | exact .inl rfl | exact .inr ⟨by simp, novsL_I _⟩ | exact .inr ⟨by simp, by simp⟩) rfl rfl) ?_
    refine wp rfl hC (oc_assign hC (.tmp rfl) rfl rfl) ?_
    refine WL_nil ?_
    refine wsr ?_
    refine wp rfl hC (oc_assign hC .cint rfl rfl) ?_
    refine WL_nil ?_
    refine W_seq ?_
    refine wsr ?_
    refine wp rfl hC (oc_field hC (.tmp rfl) fld_39_4 (by decide) (by first | exact .p (Nat.zero_add _) | exact .p rfl | exact .rp (by decide)) rfl rfl) ?_
    refine wp rfl hC (oc_load hC (.tmp rfl) (by first | exact .p rfl | exact .rp) shp_25 (by exact (unit_rz hid)) rfl rfl) ?_
    refine wp rfl hC (ox_len hC (.tmp rfl) (by first | exact .row rfl | exact .vs | exact .sl rfl | exact .nils) Tryd.underlying25 rfl rfl rfl) ?_
    refine wp rfl hC (ox_cmp hC rfl (.tmp rfl) .cint (r := false) (by simp only [cmpI]; exact decide_eq_false (by omega)) rfl rfl) ?_
    refine WL_nil ?_
    refine W_cond rfl (by decide) (fun hc => by cases hc) (fun _ => ?_)
    refine W_skip ?_
    refine W_seq ?_
    refine W_drawD hC ?_
    refine WD_cons (.plain rfl (oc_move hC (.tmp rfl) rfl rfl)) ?_
    refine WD_cons (.plain rfl (ox_len hC (.tmp rfl) (by first | exact .row rfl | exact .vs | exact .sl rfl | exact .nils) Tryd.underlying25 rfl rfl rfl)) ?_
    refine WD_cons (.plain rfl (oc_move hC (.tmp rfl) rfl rfl)) ?_
    refine WD_cons (.plain rfl (ox_len hC (.tmp rfl) (by first | exact .row rfl | exact .vs | exact .sl rfl | exact .nils) Tryd.underlying25 rfl rfl rfl)) ?_
    refine WD_cons (.plain rfl (oc_move hC (.tmp rfl) rfl rfl)) ?_
    refine WD_cons (.plain rfl (oc_bin hC rfl (.tmp rfl) (.tmp rfl) (r := (((hdrL k id v n).length + 1 : Nat) : Int)) (nadd (y := 1) (by omega)) rfl rfl)) ?_
    refine WD_cons (.plain rfl (oc_field hC (.tmp rfl) fld_39_4 (by decide) (by first | exact .p (Nat.zero_add _) | exact .p rfl | exact .rp (by decide)) rfl rfl)) ?_
    refine WD_cons (.plain rfl (oc_load hC (.tmp rfl) (by first | exact .p rfl | exact .rp) shp_25 (by exact (unit_rz hid)) rfl rfl)) ?_
    refine WD_cons (.plain rfl (ox_len hC (.tmp rfl) (by first | exact .row rfl | exact .vs | exact .sl rfl | exact .nils) Tryd.underlying25 rfl rfl rfl)) ?_
    refine WD_cons (.plain rfl (oc_bin hC rfl (.tmp rfl) (.tmp rfl) (r := (((hdrL k id v n).length + 1 + b.length : Nat) : Int)) (nadd (by omega)) rfl rfl)) ?_
    refine WD_cons (.plain rfl (oc_bin hC rfl (.tmp rfl) .cint (r := (((hdrL k id v n).length + 1 + b.length + 4 : Nat) : Int)) (nadd (y := 4) (by omega)) rfl rfl)) ?_
    refine WD_cons (.plain rfl (ox_cmp hC rfl (.tmp rfl) (.tmp rfl) (r := true) (by simp only [cmpI]; exact decide_eq_true (by omega)) rfl rfl)) ?_
    refine WD_cons (.plain rfl (oc_move hC (.tmp rfl) rfl rfl)) ?_
    refine WD_cons (.yes rfl rfl (by decide) rfl (oc_move hC (.tmp rfl) rfl rfl)) ?_
    refine WD_cons (.yes rfl rfl (by decide) rfl (oc_move hC (.tmp rfl) rfl rfl)) ?_
    refine WD_cons (.yes rfl rfl (by decide) rfl (ox_len hC (.tmp rfl) (by first | exact .row rfl | exact .vs | exact .sl rfl | exact .nils) Tryd.underlying25 rfl rfl rfl)) ?_
    refine WD_cons (.yes rfl rfl (by decide) rfl (ox_cutS hC (.tmp rfl) .no (.yes (n := (hdrL k id v n).length) (.tmp rfl) (by first | rfl | omega | (simp; omega))) idx_25 (by first | exact .row rfl (Nat.mul_one _) | exact .sl rfl | exact .vs (by first | omega | (simp <;> fail) | (simp; omega)) | exact .nils) (by first | omega | (simp <;> fail) | (simp; omega)) (by first | omega | (simp <;> fail) | (simp; omega)) (by first | exact cut_vsI | rfl) rfl rfl)) ?_
    refine WD_cons (.yes rfl rfl (by decide) rfl (ox_b2s (l := (hdrL k id v n)) hC (.tmp rfl) (by first | exact .row rfl | exact .vs | exact .sl rfl | exact .nils) (by rw [List.drop_zero]; exact take_takeI.trans (by rw [q4])) rfl Tryd.underlying25 Tryd.underlying5 Tryd.underlying9 rfl rfl)) ?_
    refine WD_cons (.yes rfl rfl (by decide) rfl (oc_move hC (.tmp rfl) rfl rfl)) ?_
    refine WD_cons (.yes rfl rfl (by decide) rfl (ox_b2s (l := (hdrL k id v n)) hC (.tmp rfl) (by first | exact .row rfl | exact .vs | exact .sl rfl | exact .nils) (take_allI rfl) rfl Tryd.underlying25 Tryd.underlying5 Tryd.underlying9 rfl rfl)) ?_
    refine WD_cons (.yes rfl rfl (by decide) rfl (ox_eqs hC (.inl rfl) (.tmp rfl) (.tmp rfl) (r := true) (by simp) rfl rfl)) ?_
    refine WD_cons (.plain rfl (ox_pick hC (.tmp rfl) (.tmp rfl) .cbool (by first | exact pick_t | exact pick_f | rfl) rfl rfl)) ?_
    refine WD_cons (.plain rfl (oc_move hC (.tmp rfl) rfl rfl)) ?_
    refine WD_cons (.yes rfl rfl (by decide) rfl (oc_call hC .nil (.same (by first | exact inSL_I _ | simp)) (awake14_c) (glob_cons rfl rfl (by first | exact inSL_I _ | simp) glob_nil) (by first | exact inSL_I _ | simp) (by first | exact .inl rfl | exact .inr (by simp)) rfl rfl)) ?_
    refine WD_cons (.plain rfl (ox_pick hC (.tmp rfl) (.tmp rfl) .cbool (by first | exact pick_t | exact pick_f | rfl) rfl rfl)) ?_
    refine WD_cons (.plain rfl (oc_assign hC (.tmp rfl) rfl rfl)) ?_
    refine WD_nil (by kernel_rfl) ?_
    refine W_ret ?_
    exact fin0 (.cons (.tmp rfl) .nil) rfl trivial
  ·
    have hll := length_encL' hid hR
    have q1 := length_encL (k := k) (id := id) (v := v) (n := n) (b := b)
    have q2 := length_encB (k := k) (id := id) (v := v) (n := n) (b := b)
    have q4 : (encL k id v n b).take (hdrL k id v n).length = (hdrL k id v n) := by unfold encL encB; simp
    have q3 : (putV b.length).length = 2 := by rw [putV_eq, putN_ge (by omega), putN_lt (by omega)]; rfl
    refine W_region ?_
    refine wp rfl hC (oc_load hC (.tmp rfl) (by first | exact .p rfl | exact .rp) shp_39 (by exact (unit_rall hid)) rfl rfl) ?_
    refine wp rfl hC (oc_callN hC (.cons (.tmp rfl) .nil) (.cons1 (.free (by first | exact inSL_I _ | simp)) (.same (by first | exact inSL_I _ | simp))) (encode_c k id v n b hid bid bb hR) (glob_cons rfl rfl (by first | exact inSL_I _ | simp) glob_nil) (by first | exact inSL_I _ | simp) rfl (by first | exact .inl rfl | exact .inr ⟨by simp, novsL_I _⟩ | exact .inr ⟨by simp, by simp⟩) rfl rfl) ?_
    refine wp rfl hC (oc_move hC (.tmp rfl) rfl rfl) ?_
    refine wp rfl hC (oc_extract hC (.tmp rfl) rfl rfl rfl) ?_
    refine wp rfl hC (oc_extract hC (.tmp rfl) rfl rfl rfl) ?_
    refine wp rfl hC (oc_assign hC (.tmp rfl) rfl rfl) ?_
    refine wp rfl hC (oc_assign hC (.tmp rfl) rfl rfl) ?_
    refine WL_nil ?_
    refine W_seq ?_
    refine wsr ?_
    refine wp rfl hC (oc_field hC (.tmp rfl) fld_39_4 (by decide) (by first | exact .p (Nat.zero_add _) | exact .p rfl | exact .rp (by decide)) rfl rfl) ?_
    refine wp rfl hC (oc_load hC (.tmp rfl) (by first | exact .p rfl | exact .rp) shp_25 (by exact (unit_rz hid)) rfl rfl) ?_
    refine wp rfl hC (ox_len hC (.tmp rfl) (by first | exact .row rfl | exact .vs | exact .sl rfl | exact .nils) Tryd.underlying25 rfl rfl rfl) ?_
    refine wp rfl hC (ox_cmp hC rfl (.tmp rfl) .cint (r := false) (by simp only [cmpI]; exact decide_eq_false (by omega)) rfl rfl) ?_
    refine wp rfl hC (oc_move hC (.tmp rfl) rfl rfl) ?_
    refine WL_cons hC.fn (.yes rfl rfl (by decide) rfl (oc_move hC (.tmp rfl) rfl rfl)) ?_
    refine WL_cons hC.fn (.yes rfl rfl (by decide) rfl (ox_cmp hC rfl (.tmp rfl) .cint (r := false) rfl rfl rfl)) ?_
    refine wp rfl hC (ox_pick hC (.tmp rfl) .cbool (.tmp rfl) (by first | exact pick_t | exact pick_f | rfl) rfl rfl) ?_
    refine WL_nil ?_
    refine W_cond rfl (by decide) (fun hc => by cases hc) (fun _ => ?_)
    refine W_skip ?_
    refine wsr ?_
    refine wp rfl hC (oc_load hC (.tmp rfl) (by first | exact .p rfl | exact .rp) shp_39 (by exact (unit_rall hid)) rfl rfl) ?_
    refine wp rfl hC (oc_callN hC (.cons (.tmp rfl) .nil) (.cons1 (.free (by first | exact inSL_I _ | simp)) (.same (by first | exact inSL_I _ | simp))) (header_c k id v n b hid bid bb hR) glob_nil (by first | exact inSL_I _ | simp) rfl (by first | exact .inl rfl | exact .inr ⟨by simp, novsL_I _⟩ | exact .inr ⟨by simp, by simp⟩) rfl rfl) ?_
    refine wp rfl hC (oc_assign hC (.tmp rfl) rfl rfl) ?_
    refine WL_nil ?_
    refine wsr ?_
    refine wp rfl hC (oc_assign hC .cint rfl rfl) ?_
    refine WL_nil ?_
    refine W_seq ?_
    refine wsr ?_
    refine wp rfl hC (oc_field hC (.tmp rfl) fld_39_4 (by decide) (by first | exact .p (Nat.zero_add _) | exact .p rfl | exact .rp (by decide)) rfl rfl) ?_
    refine wp rfl hC (oc_load hC (.tmp rfl) (by first | exact .p rfl | exact .rp) shp_25 (by exact (unit_rz hid)) rfl rfl) ?_
    refine wp rfl hC (ox_len hC (.tmp rfl) (by first | exact .row rfl | exact .vs | exact .sl rfl | exact .nils) Tryd.underlying25 rfl rfl rfl) ?_
    refine wp rfl hC (ox_cmp hC rfl (.tmp rfl) .cint (r := true) (by simp only [cmpI]; exact decide_eq_true (by omega)) rfl rfl) ?_
    refine WL_nil ?_
    refine W_cond rfl (by decide) (fun _ => ?_) (fun hc => by cases hc)
    refine W_region ?_
    refine wp rfl hC (oc_assign hC .cint rfl rfl) ?_
    refine WL_nil ?_
    refine W_seq ?_
    refine W_drawD hC ?_
    refine WD_cons (.plain rfl (oc_move hC (.tmp rfl) rfl rfl)) ?_
    refine WD_cons (.plain rfl (ox_len hC (.tmp rfl) (by first | exact .row rfl | exact .vs | exact .sl rfl | exact .nils) Tryd.underlying25 rfl rfl rfl)) ?_
    refine WD_cons (.plain rfl (oc_move hC (.tmp rfl) rfl rfl)) ?_
    refine WD_cons (.plain rfl (ox_len hC (.tmp rfl) (by first | exact .row rfl | exact .vs | exact .sl rfl | exact .nils) Tryd.underlying25 rfl rfl rfl)) ?_
    refine WD_cons (.plain rfl (oc_move hC (.tmp rfl) rfl rfl)) ?_
    refine WD_cons (.plain rfl (oc_bin hC rfl (.tmp rfl) (.tmp rfl) (r := (((hdrL k id v n).length + 2 : Nat) : Int)) (nadd (y := 2) (by omega)) rfl rfl)) ?_
    refine WD_cons (.plain rfl (oc_field hC (.tmp rfl) fld_39_4 (by decide) (by first | exact .p (Nat.zero_add _) | exact .p rfl | exact .rp (by decide)) rfl rfl)) ?_
    refine WD_cons (.plain rfl (oc_load hC (.tmp rfl) (by first | exact .p rfl | exact .rp) shp_25 (by exact (unit_rz hid)) rfl rfl)) ?_
    refine WD_cons (.plain rfl (ox_len hC (.tmp rfl) (by first | exact .row rfl | exact .vs | exact .sl rfl | exact .nils) Tryd.underlying25 rfl rfl rfl)) ?_
    refine WD_cons (.plain rfl (oc_bin hC rfl (.tmp rfl) (.tmp rfl) (r := (((hdrL k id v n).length + 2 + b.length : Nat) : Int)) (nadd (by omega)) rfl rfl)) ?_
    refine WD_cons (.plain rfl (oc_bin hC rfl (.tmp rfl) .cint (r := (((hdrL k id v n).length + 2 + b.length + 4 : Nat) : Int)) (nadd (y := 4) (by omega)) rfl rfl)) ?_
    refine WD_cons (.plain rfl (ox_cmp hC rfl (.tmp rfl) (.tmp rfl) (r := true) (by simp only [cmpI]; exact decide_eq_true (by omega)) rfl rfl)) ?_
    refine WD_cons (.plain rfl (oc_move hC (.tmp rfl) rfl rfl)) ?_
    refine WD_cons (.yes rfl rfl (by decide) rfl (oc_move hC (.tmp rfl) rfl rfl)) ?_
    refine WD_cons (.yes rfl rfl (by decide) rfl (oc_move hC (.tmp rfl) rfl rfl)) ?_
    refine WD_cons (.yes rfl rfl (by decide) rfl (ox_len hC (.tmp rfl) (by first | exact .row rfl | exact .vs | exact .sl rfl | exact .nils) Tryd.underlying25 rfl rfl rfl)) ?_
    refine WD_cons (.yes rfl rfl (by decide) rfl (ox_cutS hC (.tmp rfl) .no (.yes (n := (hdrL k id v n).length) (.tmp rfl) (by first | rfl | omega | (simp; omega))) idx_25 (by first | exact .row rfl (Nat.mul_one _) | exact .sl rfl | exact .vs (by first | omega | (simp <;> fail) | (simp; omega)) | exact .nils) (by first | omega | (simp <;> fail) | (simp; omega)) (by first | omega | (simp <;> fail) | (simp; omega)) (by first | exact cut_vsI | rfl) rfl rfl)) ?_
    refine WD_cons (.yes rfl rfl (by decide) rfl (ox_b2s (l := (hdrL k id v n)) hC (.tmp rfl) (by first | exact .row rfl | exact .vs | exact .sl rfl | exact .nils) (by rw [List.drop_zero]; exact take_takeI.trans (by rw [q4])) rfl Tryd.underlying25 Tryd.underlying5 Tryd.underlying9 rfl rfl)) ?_
    refine WD_cons (.yes rfl rfl (by decide) rfl (oc_move hC (.tmp rfl) rfl rfl)) ?_
    refine WD_cons (.yes rfl rfl (by decide) rfl (ox_b2s (l := (hdrL k id v n)) hC (.tmp rfl) (by first | exact .row rfl | exact .vs | exact .sl rfl | exact .nils) (take_allI rfl) rfl Tryd.underlying25 Tryd.underlying5 Tryd.underlying9 rfl rfl)) ?_
    refine WD_cons (.yes rfl rfl (by decide) rfl (ox_eqs hC (.inl rfl) (.tmp rfl) (.tmp rfl) (r := true) (by simp) rfl rfl)) ?_
    refine WD_cons (.plain rfl (ox_pick hC (.tmp rfl) (.tmp rfl) .cbool (by first | exact pick_t | exact pick_f | rfl) rfl rfl)) ?_
    refine WD_cons (.plain rfl (oc_move hC (.tmp rfl) rfl rfl)) ?_
    refine WD_cons (.yes rfl rfl (by decide) rfl (oc_call hC .nil (.same (by first | exact inSL_I _ | simp)) (awake14_c) (glob_cons rfl rfl (by first | exact inSL_I _ | simp) glob_nil) (by first | exact inSL_I _ | simp) (by first | exact .inl rfl | exact .inr (by simp)) rfl rfl)) ?_
    refine WD_cons (.plain rfl (ox_pick hC (.tmp rfl) (.tmp rfl) .cbool (by first | exact pick_t | exact pick_f | rfl) rfl rfl)) ?_
    refine WD_cons (.plain rfl (oc_assign hC (.tmp rfl) rfl rfl)) ?_
    refine WD_nil (by kernel_rfl) ?_
    refine W_ret ?_
    exact fin0 (.cons (.tmp rfl) .nil) rfl trivial
end Go.Proofs.YtlcgojhopdikbaaDoor
