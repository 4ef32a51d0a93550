/- Own work, printed by a program of this claim: walks through functions of the program. -/
import Derived.Test.YtlcgojhopdikbaaDoorW6
import Derived.Test.YtlcgojhopdikbaaDoorProg
import Derived.KernelRfl
set_option linter.unusedSimpArgs false
set_option linter.unusedVariables false
namespace Go.Proofs.YtlcgojhopdikbaaDoor
open Go.Sk Go.RowKit
attribute [local simp] AV.inSL AV.inS inSL_I Blk.inS Blk.cs AV.novs AV.novsL novsL_I AV.ren AV.cells AV.one lk tuAV


set_option maxRecDepth 20000 in
set_option maxHeartbeats 4000000 in
theorem law_RecordEncodes (k : Int) (id : List Int) (v n : Int) (b : List Int) (hid : id.length = 16) (bid : B8 id) (bb : B8 b) : FnC Tryd.prog 7 [(1000000, .rp (I .u32 nibT))] [.ag (recX k id v n (bodyV b))] [] [] (.b true) := by
  refine FnC.introR (N0 := 0) (T := 90) (E := [(0, .ag (recX k id v n (bodyV b))), (1000000, .rp (I .u32 nibT))]) Tryd.func7 rfl (by decide) mix rfl rfl rfl (by simp) rfl ⟨(by first | exact inSL_I _ | trivial | simp), trivial⟩ (by simp) (by intro S _ _ h; simp) (fun F n0 X w ρ hC hro => ?_)
  refine wsr ?_
  refine wp rfl hC (ox_box hC (.tmp rfl) (flat_recX rfl) (by first | exact cells_ag | rfl) rfl rfl) ?_
  refine wp rfl hC (oc_assign hC .cbool rfl rfl) ?_
  refine WL_nil ?_
  refine W_seq ?_
  refine W_seq ?_
  rcases (show (b.length ≤ 500 ∧ RightR k v n b.length) ∨ (b.length ≤ 500 ∧ ¬ RightR k v n b.length) ∨ (500 < b.length ∧ b.length ≤ 262144) ∨ (500 < b.length ∧ 262144 < b.length ∧ ¬ RightR k v n b.length) by unfold RightR; omega) with ⟨h_, hR⟩ | ⟨h_, hR⟩ | h_ | ⟨h_, h2_, hR⟩
  ·
    have hll := length_encL' hid hR
    have hhl := length_hdrL (k := k) (id := id) (v := v) (n := n)
    have p1 := length_putV7 v.toNat
    have p2 := length_putV7 n.toNat
    refine W_region ?_
    refine wp rfl hC (oc_field hC (.tmp rfl) fld_39_4 (by decide) (by first | exact .p (Nat.zero_add _) | exact .p rfl | exact .rp (by decide)) rfl rfl) ?_
    refine wp rfl hC (oc_load hC (.tmp rfl) (by first | exact .p rfl | exact .rp) shp_25 (by exact (unit_rz hid)) rfl rfl) ?_
    refine wp rfl hC (ox_len hC (.tmp rfl) (by first | exact .row rfl | exact .vs | exact .sl rfl | exact .nils) Tryd.underlying25 rfl rfl rfl) ?_
    refine wp rfl hC (ox_cmp hC rfl (.tmp rfl) .cint (r := false) (by simp only [cmpI]; exact decide_eq_false (by omega)) rfl rfl) ?_
    refine wp rfl hC (oc_move hC (.tmp rfl) rfl rfl) ?_
    refine WL_cons hC.fn (.no (s1 := ⟨_, (12, .tu []) :: _, _⟩) rfl rfl (by decide) rfl (by decide) (fun t ht => by cases ht; exact ⟨blt_lt rfl, blt_lt rfl⟩) (fun t => setE_cons _ _ _ _) rfl rfl) ?_
    refine WL_cons hC.fn (.no (s1 := ⟨_, (13, .tu []) :: _, _⟩) rfl rfl (by decide) rfl (by decide) (fun t ht => by cases ht; exact ⟨blt_lt rfl, blt_lt rfl⟩) (fun t => setE_cons _ _ _ _) rfl rfl) ?_
    refine WL_cons hC.fn (.no (s1 := ⟨_, (14, .tu []) :: _, _⟩) rfl rfl (by decide) rfl (by decide) (fun t ht => by cases ht; exact ⟨blt_lt rfl, blt_lt rfl⟩) (fun t => setE_cons _ _ _ _) rfl rfl) ?_
    refine WL_cons hC.fn (.no (s1 := ⟨_, (15, .tu []) :: _, _⟩) rfl rfl (by decide) rfl (by decide) (fun t ht => by cases ht; exact ⟨blt_lt rfl, blt_lt rfl⟩) (fun t => setE_cons _ _ _ _) rfl rfl) ?_
    refine wp rfl hC (ox_pick hC (.tmp rfl) (.tmp rfl) .cbool (by first | exact pick_t | exact pick_f | rfl) rfl rfl) ?_
    refine WL_nil ?_
    refine W_cond rfl (by decide) (fun hc => by cases hc) (fun _ => ?_)
    refine W_skip ?_
    refine wsr ?_
    refine wp rfl hC (oc_load hC (.tmp rfl) (by first | exact .p rfl | exact .rp) shp_39 (by exact (unit_rall hid)) rfl rfl) ?_
    refine wp rfl hC (oc_callN hC (.cons (.tmp rfl) .nil) (.cons1 (.free (by first | exact inSL_I _ | simp)) (.same (by first | exact inSL_I _ | simp))) (encode_c k id v n b hid bid bb hR) (glob_cons rfl rfl (by first | exact inSL_I _ | simp) glob_nil) (by first | exact inSL_I _ | simp) rfl (by first | exact .inl rfl | exact .inr ⟨by simp, novsL_I _⟩ | exact .inr ⟨by simp, by simp⟩) rfl rfl) ?_
    refine wp rfl hC (oc_move hC (.tmp rfl) rfl rfl) ?_
    refine wp rfl hC (oc_extract hC (.tmp rfl) rfl rfl rfl) ?_
    refine wp rfl hC (oc_extract hC (.tmp rfl) rfl rfl rfl) ?_
    refine wp rfl hC (oc_assign hC (.tmp rfl) rfl rfl) ?_
    refine wp rfl hC (oc_assign hC (.tmp rfl) rfl rfl) ?_
    refine WL_nil ?_
    refine W_seq ?_
    refine wsr ?_
    refine wp rfl hC (oc_load hC (.tmp rfl) (by first | exact .p rfl | exact .rp) shp_39 (by exact (unit_rall hid)) rfl rfl) ?_
    refine wp rfl hC (oc_call hC (.cons (.tmp rfl) .nil) (.cons1 (.free (by first | exact inSL_I _ | simp)) (.same (by first | exact inSL_I _ | simp))) (given_c k id v n b hid bid bb) glob_nil (by first | exact inSL_I _ | simp) (by first | exact .inl rfl | exact .inr (by simp)) rfl rfl) ?_
    refine wp rfl hC (oc_call hC (.cons (.tmp rfl) .nil) (.cons1 (.free (by first | exact inSL_I _ | simp)) (.same (by first | exact inSL_I _ | simp))) (rright_t k id v n b hid bid bb hR) glob_nil (by first | exact inSL_I _ | simp) (by first | exact .inl rfl | exact .inr (by simp)) rfl rfl) ?_
    refine wp rfl hC (oc_not hC (.tmp rfl) rfl rfl) ?_
    refine WL_nil ?_
    refine W_cond rfl (by decide) (fun hc => by cases hc) (fun _ => ?_)
    refine W_skip ?_
    refine wsr ?_
    refine WL_weak (weak_frz (t := 3) (b := (encL k id v n b)) rfl rfl (.here rfl) rfl) ?_
    refine wp rfl hC (oc_move hC (.tmp rfl) rfl rfl) ?_
    refine wp rfl hC (oc_call hC (.cons (.tmp rfl) .nil) (.cons1 (by first | exact .free (by first | exact inSL_I _ | simp) | exact .row rfl rfl (by first | exact inSL_I _ | simp) | exact .nils | exact .sl1 rfl (by first | exact cut_I | rfl) (by first | exact inSL_I _ | simp)) (.same (by first | exact inSL_I _ | simp))) (decenc_c k id v n b hid bid bb hR) (glob_cons rfl rfl (by first | exact inSL_I _ | simp) glob_nil) (by first | exact inSL_I _ | simp) (by first | exact .inl rfl | exact .inr (by simp)) rfl rfl) ?_
    refine wp rfl hC (oc_move hC (.tmp rfl) rfl rfl) ?_
    refine wp rfl hC (oc_extract hC (.tmp rfl) rfl rfl rfl) ?_
    refine wp rfl hC (oc_extract hC (.tmp rfl) rfl rfl rfl) ?_
    refine wp rfl hC (ox_alloc (cs' := recX 0 (List.replicate 16 0) 0 0 .nils) hC zero_39 (by unfold recX; rfl) rfl rfl) ?_
    refine wp rfl hC (ox_store (bk' := .blk 39 (recX k id v n (bodyV b))) hC (.tmp rfl) (.tmp rfl) rfl shp_39 (flat_recX rfl) (by rw [cells_ag, length_recX hid]) (by show _ ≤ (recX _ _ _ _ _).length; rw [length_recX rfl]; decide) (put_rall rfl hid) (by first | exact .here | exact .s1 rfl | exact .s2 rfl rfl | exact .s3 rfl rfl rfl | exact .s4 rfl rfl rfl rfl | exact .s5 rfl rfl rfl rfl rfl | exact .s6 rfl rfl rfl rfl rfl rfl | exact .s7 rfl rfl rfl rfl rfl rfl rfl | exact .s8 rfl rfl rfl rfl rfl rfl rfl rfl) rfl) ?_
    refine wp rfl hC (oc_assign hC (.tmp rfl) rfl rfl) ?_
    refine WL_nil ?_
    refine W_seq ?_
    refine W_drawD hC ?_
    refine WD_cons (.plain rfl (oc_move hC (.tmp rfl) rfl rfl)) ?_
    refine WD_cons (.plain rfl (ox_b2s (l := (encL k id v n b)) hC (.tmp rfl) (by first | exact .row rfl | exact .vs | exact .sl rfl | exact .nils) (take_allI rfl) rfl Tryd.underlying25 Tryd.underlying5 Tryd.underlying9 rfl rfl)) ?_
    refine WD_cons (.plain rfl (oc_load hC (.tmp rfl) (by first | exact .p rfl | exact .rp) shp_39 (by exact (unit_rall hid)) rfl rfl)) ?_
    refine WD_cons (.plain rfl (oc_call hC (.cons (.tmp rfl) .nil) (.cons1 (.free (by first | exact inSL_I _ | simp)) (.same (by first | exact inSL_I _ | simp))) (given_c k id v n b hid bid bb) glob_nil (by first | exact inSL_I _ | simp) (by first | exact .inl rfl | exact .inr (by simp)) rfl rfl)) ?_
    refine WD_cons (.plain rfl (oc_callN hC (.cons (.tmp rfl) .nil) (.cons1 (.free (by first | exact inSL_I _ | simp)) (.same (by first | exact inSL_I _ | simp))) (rencode_c k id v n b hid bid bb hR) glob_nil (by first | exact inSL_I _ | simp) rfl (by first | exact .inl rfl | exact .inr ⟨by simp, novsL_I _⟩ | exact .inr ⟨by simp, by simp⟩) rfl rfl)) ?_
    refine WD_cons (.plain rfl (ox_b2s (l := (encL k id v n b)) hC (.tmp rfl) (by first | exact .row rfl | exact .vs | exact .sl rfl | exact .nils) (take_allI rfl) rfl Tryd.underlying25 Tryd.underlying5 Tryd.underlying9 rfl rfl)) ?_
    refine WD_cons (.plain rfl (ox_eqs hC (.inl rfl) (.tmp rfl) (.tmp rfl) (r := true) (by simp) rfl rfl)) ?_
    refine WD_cons (.plain rfl (oc_move hC (.tmp rfl) rfl rfl)) ?_
    refine WD_cons (.yes rfl rfl (by decide) rfl (oc_move hC (.tmp rfl) rfl rfl)) ?_
    refine WD_cons (.yes rfl rfl (by decide) rfl (ox_cmp hC rfl (.tmp rfl) .cint (r := true) rfl rfl rfl)) ?_
    refine WD_cons (.plain rfl (ox_pick hC (.tmp rfl) (.tmp rfl) .cbool (by first | exact pick_t | exact pick_f | rfl) rfl rfl)) ?_
    refine WD_cons (.plain rfl (oc_move hC (.tmp rfl) rfl rfl)) ?_
    refine WD_cons (.yes rfl rfl (by decide) rfl (oc_move hC (.tmp rfl) rfl rfl)) ?_
    refine WD_cons (.yes rfl rfl (by decide) rfl (ox_cmp hC rfl (.tmp rfl) .cint (r := true) rfl rfl rfl)) ?_
    refine WD_cons (.plain rfl (ox_pick hC (.tmp rfl) (.tmp rfl) .cbool (by first | exact pick_t | exact pick_f | rfl) rfl rfl)) ?_
    refine WD_cons (.plain rfl (oc_move hC (.tmp rfl) rfl rfl)) ?_
    refine WD_cons (.yes rfl rfl (by decide) rfl (oc_load hC (.tmp rfl) (by first | exact .p rfl | exact .rp) shp_39 (by exact (unit_rall hid)) rfl rfl)) ?_
    refine WD_cons (.yes rfl rfl (by decide) rfl (oc_load hC (.tmp rfl) (by first | exact .p rfl | exact .rp) shp_39 (by exact (unit_rall hid)) rfl rfl)) ?_
    refine WD_cons (.yes rfl rfl (by decide) rfl (oc_call hC (.cons (.tmp rfl) (.cons (.tmp rfl) .nil)) (.cons1 (.free (by first | exact inSL_I _ | simp)) (.cons1 (.free (by first | exact inSL_I _ | simp)) (.same (by first | exact inSL_I _ | simp)))) (rsame_c k k id id v v n n b b hid hid bid bid (by omega)) glob_nil (by first | exact inSL_I _ | simp) (by first | exact .inl rfl | exact .inr (by simp)) rfl rfl)) ?_
    rw [decide_eq_true (show k = k ∧ id = id ∧ v = v ∧ n = n ∧ b = b from ⟨rfl, rfl, rfl, rfl, rfl⟩)]
    refine WD_cons (.plain rfl (ox_pick hC (.tmp rfl) (.tmp rfl) .cbool (by first | exact pick_t | exact pick_f | rfl) rfl rfl)) ?_
    refine WD_cons (.plain rfl (oc_move hC (.tmp rfl) rfl rfl)) ?_
    refine WD_cons (.yes rfl rfl (by decide) rfl (oc_load hC (.tmp rfl) (by first | exact .p rfl | exact .rp) shp_39 (by exact (unit_rall hid)) rfl rfl)) ?_
    refine WD_cons (.yes rfl rfl (by decide) rfl (oc_call hC (.cons (.tmp rfl) .nil) (.cons1 (.free (by first | exact inSL_I _ | simp)) (.same (by first | exact inSL_I _ | simp))) (right_t k id v n b hid bid bb hR) glob_nil (by first | exact inSL_I _ | simp) (by first | exact .inl rfl | exact .inr (by simp)) rfl rfl)) ?_
    refine WD_cons (.plain rfl (ox_pick hC (.tmp rfl) (.tmp rfl) .cbool (by first | exact pick_t | exact pick_f | rfl) rfl rfl)) ?_
    refine WD_cons (.plain rfl (oc_move hC (.tmp rfl) rfl rfl)) ?_
    refine WD_cons (.yes rfl rfl (by decide) rfl (oc_load hC (.tmp rfl) (by first | exact .p rfl | exact .rp) shp_39 (by exact (unit_rall hid)) rfl rfl)) ?_
    refine WD_cons (.yes rfl rfl (by decide) rfl (oc_callN hC (.cons (.tmp rfl) .nil) (.cons1 (.free (by first | exact inSL_I _ | simp)) (.same (by first | exact inSL_I _ | simp))) (header_c k id v n b hid bid bb hR) glob_nil (by first | exact inSL_I _ | simp) rfl (by first | exact .inl rfl | exact .inr ⟨by simp, novsL_I _⟩ | exact .inr ⟨by simp, by simp⟩) rfl rfl)) ?_
    refine WD_cons (.yes rfl rfl (by decide) rfl (ox_b2s (l := (hdrL k id v n)) hC (.tmp rfl) (by first | exact .row rfl | exact .vs | exact .sl rfl | exact .nils) (take_allI rfl) rfl Tryd.underlying25 Tryd.underlying5 Tryd.underlying9 rfl rfl)) ?_
    refine WD_cons (.yes rfl rfl (by decide) rfl (oc_load hC (.tmp rfl) (by first | exact .p rfl | exact .rp) shp_39 (by exact (unit_rall hid)) rfl rfl)) ?_
    refine WD_cons (.yes rfl rfl (by decide) rfl (oc_call hC (.cons (.tmp rfl) .nil) (.cons1 (.free (by first | exact inSL_I _ | simp)) (.same (by first | exact inSL_I _ | simp))) (given_c k id v n b hid bid bb) glob_nil (by first | exact inSL_I _ | simp) (by first | exact .inl rfl | exact .inr (by simp)) rfl rfl)) ?_
    refine WD_cons (.yes rfl rfl (by decide) rfl (oc_callN hC (.cons (.tmp rfl) .nil) (.cons1 (.free (by first | exact inSL_I _ | simp)) (.same (by first | exact inSL_I _ | simp))) (rheader_c k id v n b hid bid bb hR) glob_nil (by first | exact inSL_I _ | simp) rfl (by first | exact .inl rfl | exact .inr ⟨by simp, novsL_I _⟩ | exact .inr ⟨by simp, by simp⟩) rfl rfl)) ?_
    refine WD_cons (.yes rfl rfl (by decide) rfl (ox_b2s (l := (hdrL k id v n)) hC (.tmp rfl) (by first | exact .row rfl | exact .vs | exact .sl rfl | exact .nils) (take_allI rfl) rfl Tryd.underlying25 Tryd.underlying5 Tryd.underlying9 rfl rfl)) ?_
    refine WD_cons (.yes rfl rfl (by decide) rfl (ox_eqs hC (.inl rfl) (.tmp rfl) (.tmp rfl) (r := true) (by simp) rfl rfl)) ?_
    refine WD_cons (.plain rfl (ox_pick hC (.tmp rfl) (.tmp rfl) .cbool (by first | exact pick_t | exact pick_f | rfl) rfl rfl)) ?_
    refine WD_cons (.plain rfl (oc_move hC (.tmp rfl) rfl rfl)) ?_
    refine WD_cons (.yes rfl rfl (by decide) rfl (oc_call hC .nil (.same (by first | exact inSL_I _ | simp)) (awake14_c) (glob_cons rfl rfl (by first | exact inSL_I _ | simp) glob_nil) (by first | exact inSL_I _ | simp) (by first | exact .inl rfl | exact .inr (by simp)) rfl rfl)) ?_
    refine WD_cons (.plain rfl (ox_pick hC (.tmp rfl) (.tmp rfl) .cbool (by first | exact pick_t | exact pick_f | rfl) rfl rfl)) ?_
    refine WD_cons (.plain rfl (oc_assign hC (.tmp rfl) rfl rfl)) ?_
    refine WD_nil (by kernel_rfl) ?_
    refine W_ret ?_
    exact fin0 (.cons (.tmp rfl) .nil) rfl trivial
  ·
    refine W_region ?_
    refine wp rfl hC (oc_field hC (.tmp rfl) fld_39_4 (by decide) (by first | exact .p (Nat.zero_add _) | exact .p rfl | exact .rp (by decide)) rfl rfl) ?_
    refine wp rfl hC (oc_load hC (.tmp rfl) (by first | exact .p rfl | exact .rp) shp_25 (by exact (unit_rz hid)) rfl rfl) ?_
    refine wp rfl hC (ox_len hC (.tmp rfl) (by first | exact .row rfl | exact .vs | exact .sl rfl | exact .nils) Tryd.underlying25 rfl rfl rfl) ?_
    refine wp rfl hC (ox_cmp hC rfl (.tmp rfl) .cint (r := false) (by simp only [cmpI]; exact decide_eq_false (by omega)) rfl rfl) ?_
    refine wp rfl hC (oc_move hC (.tmp rfl) rfl rfl) ?_
    refine WL_cons hC.fn (.no (s1 := ⟨_, (12, .tu []) :: _, _⟩) rfl rfl (by decide) rfl (by decide) (fun t ht => by cases ht; exact ⟨blt_lt rfl, blt_lt rfl⟩) (fun t => setE_cons _ _ _ _) rfl rfl) ?_
    refine WL_cons hC.fn (.no (s1 := ⟨_, (13, .tu []) :: _, _⟩) rfl rfl (by decide) rfl (by decide) (fun t ht => by cases ht; exact ⟨blt_lt rfl, blt_lt rfl⟩) (fun t => setE_cons _ _ _ _) rfl rfl) ?_
    refine WL_cons hC.fn (.no (s1 := ⟨_, (14, .tu []) :: _, _⟩) rfl rfl (by decide) rfl (by decide) (fun t ht => by cases ht; exact ⟨blt_lt rfl, blt_lt rfl⟩) (fun t => setE_cons _ _ _ _) rfl rfl) ?_
    refine WL_cons hC.fn (.no (s1 := ⟨_, (15, .tu []) :: _, _⟩) rfl rfl (by decide) rfl (by decide) (fun t ht => by cases ht; exact ⟨blt_lt rfl, blt_lt rfl⟩) (fun t => setE_cons _ _ _ _) rfl rfl) ?_
    refine wp rfl hC (ox_pick hC (.tmp rfl) (.tmp rfl) .cbool (by first | exact pick_t | exact pick_f | rfl) rfl rfl) ?_
    refine WL_nil ?_
    refine W_cond rfl (by decide) (fun hc => by cases hc) (fun _ => ?_)
    refine W_skip ?_
    refine wsr ?_
    refine wp rfl hC (oc_load hC (.tmp rfl) (by first | exact .p rfl | exact .rp) shp_39 (by exact (unit_rall hid)) rfl rfl) ?_
    refine wp rfl hC (oc_call hC (.cons (.tmp rfl) .nil) (.cons1 (.free (by first | exact inSL_I _ | simp)) (.same (by first | exact inSL_I _ | simp))) (encodeno_c k id v n b hid bid bb hR) (glob_cons rfl rfl (by first | exact inSL_I _ | simp) glob_nil) (by first | exact inSL_I _ | simp) (by first | exact .inl rfl | exact .inr (by simp)) rfl rfl) ?_
    refine wp rfl hC (oc_move hC (.tmp rfl) rfl rfl) ?_
    refine wp rfl hC (oc_extract hC (.tmp rfl) rfl rfl rfl) ?_
    refine wp rfl hC (oc_extract hC (.tmp rfl) rfl rfl rfl) ?_
    refine wp rfl hC (oc_assign hC (.tmp rfl) rfl rfl) ?_
    refine wp rfl hC (oc_assign hC (.tmp rfl) rfl rfl) ?_
    refine WL_nil ?_
    refine W_seq ?_
    refine wsr ?_
    refine wp rfl hC (oc_load hC (.tmp rfl) (by first | exact .p rfl | exact .rp) shp_39 (by exact (unit_rall hid)) rfl rfl) ?_
    refine wp rfl hC (oc_call hC (.cons (.tmp rfl) .nil) (.cons1 (.free (by first | exact inSL_I _ | simp)) (.same (by first | exact inSL_I _ | simp))) (given_c k id v n b hid bid bb) glob_nil (by first | exact inSL_I _ | simp) (by first | exact .inl rfl | exact .inr (by simp)) rfl rfl) ?_
    refine wp rfl hC (oc_call hC (.cons (.tmp rfl) .nil) (.cons1 (.free (by first | exact inSL_I _ | simp)) (.same (by first | exact inSL_I _ | simp))) (rright_f k id v n b hid bid bb hR) glob_nil (by first | exact inSL_I _ | simp) (by first | exact .inl rfl | exact .inr (by simp)) rfl rfl) ?_
    refine wp rfl hC (oc_not hC (.tmp rfl) rfl rfl) ?_
    refine WL_nil ?_
    refine W_cond rfl (by decide) (fun _ => ?_) (fun hc => by cases hc)
    refine wsr ?_
    refine wp rfl hC (oc_move hC (.tmp rfl) rfl rfl) ?_
    refine wp rfl hC (ox_len hC (.tmp rfl) (by first | exact .row rfl | exact .vs | exact .sl rfl | exact .nils) Tryd.underlying25 rfl rfl rfl) ?_
    refine wp rfl hC (ox_cmp hC rfl (.tmp rfl) .cint (r := true) rfl rfl rfl) ?_
    refine wp rfl hC (oc_move hC (.tmp rfl) rfl rfl) ?_
    refine WL_cons hC.fn (.yes rfl rfl (by decide) rfl (oc_move hC (.tmp rfl) rfl rfl)) ?_
    refine WL_cons hC.fn (.yes rfl rfl (by decide) rfl (ox_cmp hC rfl (.tmp rfl) .cint (r := true) rfl rfl rfl)) ?_
    refine wp rfl hC (ox_pick hC (.tmp rfl) (.tmp rfl) .cbool (by first | exact pick_t | exact pick_f | rfl) rfl rfl) ?_
    refine wp rfl hC (oc_move hC (.tmp rfl) rfl rfl) ?_
    refine WL_cons hC.fn (.yes rfl rfl (by decide) rfl (oc_load hC (.tmp rfl) (by first | exact .p rfl | exact .rp) shp_39 (by exact (unit_rall hid)) rfl rfl)) ?_
    refine WL_cons hC.fn (.yes rfl rfl (by decide) rfl (oc_call hC (.cons (.tmp rfl) .nil) (.cons1 (.free (by first | exact inSL_I _ | simp)) (.same (by first | exact inSL_I _ | simp))) (right_f k id v n b hid bid bb hR) glob_nil (by first | exact inSL_I _ | simp) (by first | exact .inl rfl | exact .inr (by simp)) rfl rfl)) ?_
    refine WL_cons hC.fn (.yes rfl rfl (by decide) rfl (oc_not hC (.tmp rfl) rfl rfl)) ?_
    refine wp rfl hC (ox_pick hC (.tmp rfl) (.tmp rfl) .cbool (by first | exact pick_t | exact pick_f | rfl) rfl rfl) ?_
    refine wp rfl hC (oc_move hC (.tmp rfl) rfl rfl) ?_
    refine WL_cons hC.fn (.yes rfl rfl (by decide) rfl (oc_load hC (.tmp rfl) (by first | exact .p rfl | exact .rp) shp_39 (by exact (unit_rall hid)) rfl rfl)) ?_
    refine WL_cons hC.fn (.yes rfl rfl (by decide) rfl (oc_call hC (.cons (.tmp rfl) .nil) (.cons1 (.free (by first | exact inSL_I _ | simp)) (.same (by first | exact inSL_I _ | simp))) (headerno_c k id v n b hid bid bb hR) glob_nil (by first | exact inSL_I _ | simp) (by first | exact .inl rfl | exact .inr (by simp)) rfl rfl)) ?_
    refine WL_cons hC.fn (.yes rfl rfl (by decide) rfl (ox_len hC (.tmp rfl) (by first | exact .row rfl | exact .vs | exact .sl rfl | exact .nils) Tryd.underlying25 rfl rfl rfl)) ?_
    refine WL_cons hC.fn (.yes rfl rfl (by decide) rfl (ox_cmp hC rfl (.tmp rfl) .cint (r := true) rfl rfl rfl)) ?_
    refine wp rfl hC (ox_pick hC (.tmp rfl) (.tmp rfl) .cbool (by first | exact pick_t | exact pick_f | rfl) rfl rfl) ?_
    refine wp rfl hC (oc_move hC (.tmp rfl) rfl rfl) ?_
    refine WL_cons hC.fn (.yes rfl rfl (by decide) rfl (oc_call hC .nil (.same (by first | exact inSL_I _ | simp)) (awake14_c) (glob_cons rfl rfl (by first | exact inSL_I _ | simp) glob_nil) (by first | exact inSL_I _ | simp) (by first | exact .inl rfl | exact .inr (by simp)) rfl rfl)) ?_
    refine wp rfl hC (ox_pick hC (.tmp rfl) (.tmp rfl) .cbool (by first | exact pick_t | exact pick_f | rfl) rfl rfl) ?_
    refine wp rfl hC (oc_assign hC (.tmp rfl) rfl rfl) ?_
    refine WL_nil ?_
    refine W_ret ?_
    exact fin0 (.cons (.tmp rfl) .nil) rfl trivial
  ·
    refine W_region ?_
    refine wp rfl hC (oc_field hC (.tmp rfl) fld_39_4 (by decide) (by first | exact .p (Nat.zero_add _) | exact .p rfl | exact .rp (by decide)) rfl rfl) ?_
    refine wp rfl hC (oc_load hC (.tmp rfl) (by first | exact .p rfl | exact .rp) shp_25 (by exact (unit_rz hid)) rfl rfl) ?_
    refine wp rfl hC (ox_len hC (.tmp rfl) (by first | exact .row rfl | exact .vs | exact .sl rfl | exact .nils) Tryd.underlying25 rfl rfl rfl) ?_
    refine wp rfl hC (ox_cmp hC rfl (.tmp rfl) .cint (r := true) (by simp only [cmpI]; exact decide_eq_true (by omega)) rfl rfl) ?_
    refine wp rfl hC (oc_move hC (.tmp rfl) rfl rfl) ?_
    refine WL_cons hC.fn (.yes rfl rfl (by decide) rfl (oc_field hC (.tmp rfl) fld_39_4 (by decide) (by first | exact .p (Nat.zero_add _) | exact .p rfl | exact .rp (by decide)) rfl rfl)) ?_
    refine WL_cons hC.fn (.yes rfl rfl (by decide) rfl (oc_load hC (.tmp rfl) (by first | exact .p rfl | exact .rp) shp_25 (by exact (unit_rz hid)) rfl rfl)) ?_
    refine WL_cons hC.fn (.yes rfl rfl (by decide) rfl (ox_len hC (.tmp rfl) (by first | exact .row rfl | exact .vs | exact .sl rfl | exact .nils) Tryd.underlying25 rfl rfl rfl)) ?_
    refine WL_cons hC.fn (.yes rfl rfl (by decide) rfl (ox_cmp hC rfl (.tmp rfl) .cint (r := true) (by simp only [cmpI]; exact decide_eq_true (by omega)) rfl rfl)) ?_
    refine wp rfl hC (ox_pick hC (.tmp rfl) (.tmp rfl) .cbool (by first | exact pick_t | exact pick_f | rfl) rfl rfl) ?_
    refine WL_nil ?_
    refine W_cond rfl (by decide) (fun _ => ?_) (fun hc => by cases hc)
    refine wsr ?_
    refine wp rfl hC (oc_call hC .nil (.same (by first | exact inSL_I _ | simp)) (awake14_c) (glob_cons rfl rfl (by first | exact inSL_I _ | simp) glob_nil) (by first | exact inSL_I _ | simp) (by first | exact .inl rfl | exact .inr (by simp)) rfl rfl) ?_
    refine wp rfl hC (oc_assign hC (.tmp rfl) rfl rfl) ?_
    refine WL_nil ?_
    refine W_ret ?_
    exact fin0 (.cons (.tmp rfl) .nil) rfl trivial
  ·
    refine W_region ?_
    refine wp rfl hC (oc_field hC (.tmp rfl) fld_39_4 (by decide) (by first | exact .p (Nat.zero_add _) | exact .p rfl | exact .rp (by decide)) rfl rfl) ?_
    refine wp rfl hC (oc_load hC (.tmp rfl) (by first | exact .p rfl | exact .rp) shp_25 (by exact (unit_rz hid)) rfl rfl) ?_
    refine wp rfl hC (ox_len hC (.tmp rfl) (by first | exact .row rfl | exact .vs | exact .sl rfl | exact .nils) Tryd.underlying25 rfl rfl rfl) ?_
    refine wp rfl hC (ox_cmp hC rfl (.tmp rfl) .cint (r := true) (by simp only [cmpI]; exact decide_eq_true (by omega)) rfl rfl) ?_
    refine wp rfl hC (oc_move hC (.tmp rfl) rfl rfl) ?_
    refine WL_cons hC.fn (.yes rfl rfl (by decide) rfl (oc_field hC (.tmp rfl) fld_39_4 (by decide) (by first | exact .p (Nat.zero_add _) | exact .p rfl | exact .rp (by decide)) rfl rfl)) ?_
    refine WL_cons hC.fn (.yes rfl rfl (by decide) rfl (oc_load hC (.tmp rfl) (by first | exact .p rfl | exact .rp) shp_25 (by exact (unit_rz hid)) rfl rfl)) ?_
    refine WL_cons hC.fn (.yes rfl rfl (by decide) rfl (ox_len hC (.tmp rfl) (by first | exact .row rfl | exact .vs | exact .sl rfl | exact .nils) Tryd.underlying25 rfl rfl rfl)) ?_
    refine WL_cons hC.fn (.yes rfl rfl (by decide) rfl (ox_cmp hC rfl (.tmp rfl) .cint (r := false) (by simp only [cmpI]; exact decide_eq_false (by omega)) rfl rfl)) ?_
    refine wp rfl hC (ox_pick hC (.tmp rfl) (.tmp rfl) .cbool (by first | exact pick_t | exact pick_f | rfl) rfl rfl) ?_
    refine WL_nil ?_
    refine W_cond rfl (by decide) (fun hc => by cases hc) (fun _ => ?_)
    refine W_skip ?_
    refine wsr ?_
    refine wp rfl hC (oc_load hC (.tmp rfl) (by first | exact .p rfl | exact .rp) shp_39 (by exact (unit_rall hid)) rfl rfl) ?_
    refine wp rfl hC (oc_call hC (.cons (.tmp rfl) .nil) (.cons1 (.free (by first | exact inSL_I _ | simp)) (.same (by first | exact inSL_I _ | simp))) (encodeno_c k id v n b hid bid bb hR) (glob_cons rfl rfl (by first | exact inSL_I _ | simp) glob_nil) (by first | exact inSL_I _ | simp) (by first | exact .inl rfl | exact .inr (by simp)) rfl rfl) ?_
    refine wp rfl hC (oc_move hC (.tmp rfl) rfl rfl) ?_
    refine wp rfl hC (oc_extract hC (.tmp rfl) rfl rfl rfl) ?_
    refine wp rfl hC (oc_extract hC (.tmp rfl) rfl rfl rfl) ?_
    refine wp rfl hC (oc_assign hC (.tmp rfl) rfl rfl) ?_
    refine wp rfl hC (oc_assign hC (.tmp rfl) rfl rfl) ?_
    refine WL_nil ?_
    refine W_seq ?_
    refine wsr ?_
    refine wp rfl hC (oc_load hC (.tmp rfl) (by first | exact .p rfl | exact .rp) shp_39 (by exact (unit_rall hid)) rfl rfl) ?_
    refine wp rfl hC (oc_call hC (.cons (.tmp rfl) .nil) (.cons1 (.free (by first | exact inSL_I _ | simp)) (.same (by first | exact inSL_I _ | simp))) (given_c k id v n b hid bid bb) glob_nil (by first | exact inSL_I _ | simp) (by first | exact .inl rfl | exact .inr (by simp)) rfl rfl) ?_
    refine wp rfl hC (oc_call hC (.cons (.tmp rfl) .nil) (.cons1 (.free (by first | exact inSL_I _ | simp)) (.same (by first | exact inSL_I _ | simp))) (rright_f k id v n b hid bid bb hR) glob_nil (by first | exact inSL_I _ | simp) (by first | exact .inl rfl | exact .inr (by simp)) rfl rfl) ?_
    refine wp rfl hC (oc_not hC (.tmp rfl) rfl rfl) ?_
    refine WL_nil ?_
    refine W_cond rfl (by decide) (fun _ => ?_) (fun hc => by cases hc)
    refine wsr ?_
    refine wp rfl hC (oc_move hC (.tmp rfl) rfl rfl) ?_
    refine wp rfl hC (ox_len hC (.tmp rfl) (by first | exact .row rfl | exact .vs | exact .sl rfl | exact .nils) Tryd.underlying25 rfl rfl rfl) ?_
    refine wp rfl hC (ox_cmp hC rfl (.tmp rfl) .cint (r := true) rfl rfl rfl) ?_
    refine wp rfl hC (oc_move hC (.tmp rfl) rfl rfl) ?_
    refine WL_cons hC.fn (.yes rfl rfl (by decide) rfl (oc_move hC (.tmp rfl) rfl rfl)) ?_
    refine WL_cons hC.fn (.yes rfl rfl (by decide) rfl (ox_cmp hC rfl (.tmp rfl) .cint (r := true) rfl rfl rfl)) ?_
    refine wp rfl hC (ox_pick hC (.tmp rfl) (.tmp rfl) .cbool (by first | exact pick_t | exact pick_f | rfl) rfl rfl) ?_
    refine wp rfl hC (oc_move hC (.tmp rfl) rfl rfl) ?_
    refine WL_cons hC.fn (.yes rfl rfl (by decide) rfl (oc_load hC (.tmp rfl) (by first | exact .p rfl | exact .rp) shp_39 (by exact (unit_rall hid)) rfl rfl)) ?_
    refine WL_cons hC.fn (.yes rfl rfl (by decide) rfl (oc_call hC (.cons (.tmp rfl) .nil) (.cons1 (.free (by first | exact inSL_I _ | simp)) (.same (by first | exact inSL_I _ | simp))) (right_f k id v n b hid bid bb hR) glob_nil (by first | exact inSL_I _ | simp) (by first | exact .inl rfl | exact .inr (by simp)) rfl rfl)) ?_
    refine WL_cons hC.fn (.yes rfl rfl (by decide) rfl (oc_not hC (.tmp rfl) rfl rfl)) ?_
    refine wp rfl hC (ox_pick hC (.tmp rfl) (.tmp rfl) .cbool (by first | exact pick_t | exact pick_f | rfl) rfl rfl) ?_
    refine wp rfl hC (oc_move hC (.tmp rfl) rfl rfl) ?_
    refine WL_cons hC.fn (.yes rfl rfl (by decide) rfl (oc_load hC (.tmp rfl) (by first | exact .p rfl | exact .rp) shp_39 (by exact (unit_rall hid)) rfl rfl)) ?_
    refine WL_cons hC.fn (.yes rfl rfl (by decide) rfl (oc_call hC (.cons (.tmp rfl) .nil) (.cons1 (.free (by first | exact inSL_I _ | simp)) (.same (by first | exact inSL_I _ | simp))) (headerno_c k id v n b hid bid bb hR) glob_nil (by first | exact inSL_I _ | simp) (by first | exact .inl rfl | exact .inr (by simp)) rfl rfl)) ?_
    refine WL_cons hC.fn (.yes rfl rfl (by decide) rfl (ox_len hC (.tmp rfl) (by first | exact .row rfl | exact .vs | exact .sl rfl | exact .nils) Tryd.underlying25 rfl rfl rfl)) ?_
    refine WL_cons hC.fn (.yes rfl rfl (by decide) rfl (ox_cmp hC rfl (.tmp rfl) .cint (r := true) rfl rfl rfl)) ?_
    refine wp rfl hC (ox_pick hC (.tmp rfl) (.tmp rfl) .cbool (by first | exact pick_t | exact pick_f | rfl) rfl rfl) ?_
    refine wp rfl hC (oc_move hC (.tmp rfl) rfl rfl) ?_
    refine WL_cons hC.fn (.yes rfl rfl (by decide) rfl (oc_call hC .nil (.same (by first | exact inSL_I _ | simp)) (awake14_c) (glob_cons rfl rfl (by first | exact inSL_I _ | simp) glob_nil) (by first | exact inSL_I _ | simp) (by first | exact .inl rfl | exact .inr (by simp)) rfl rfl)) ?_
    refine wp rfl hC (ox_pick hC (.tmp rfl) (.tmp rfl) .cbool (by first | exact pick_t | exact pick_f | rfl) rfl rfl) ?_
    refine wp rfl hC (oc_assign hC (.tmp rfl) rfl rfl) ?_
    refine WL_nil ?_
    refine W_ret ?_
    exact fin0 (.cons (.tmp rfl) .nil) rfl trivial
end Go.Proofs.YtlcgojhopdikbaaDoor
