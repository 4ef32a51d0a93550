/- Own work, printed by a program of this claim: walks through functions of the program. -/
import Derived.Test.YtlcgojhopdikbaaDoorW6
import Derived.Test.YtlcgojhopdikbaaDoorProg
import Derived.KernelRfl
set_option linter.unusedSimpArgs false
set_option linter.unusedVariables false
namespace Go.Proofs.YtlcgojhopdikbaaDoor
open Go.Sk Go.RowKit
attribute [local simp] AV.inSL AV.inS inSL_I Blk.inS Blk.cs AV.novs AV.novsL novsL_I AV.ren AV.cells AV.one lk tuAV


set_option maxRecDepth 20000 in
set_option maxHeartbeats 4000000 in
theorem law_RecordTurned (k : Int) (id : List Int) (v n : Int) (b : List Int) (hid : id.length = 16) (bid : B8 id) (bb : B8 b) (at_ y : Int) (hy : 0 ≤ y ∧ y < 256) : FnC Tryd.prog 9 [(1000000, .rp (I .u32 nibT))] [.ag (recX k id v n (bodyV b)), .i .i64 at_, .i .u8 y] [] [] (.b true) := by
  refine FnC.introR (N0 := 0) (T := 61) (E := [(0, .ag (recX k id v n (bodyV b))), (1, .i .i64 at_), (2, .i .u8 y), (1000000, .rp (I .u32 nibT))]) Tryd.func9 rfl (by decide) mix rfl rfl rfl (by simp) rfl ⟨(by first | exact inSL_I _ | trivial | simp), (by first | exact inSL_I _ | trivial | simp), (by first | exact inSL_I _ | trivial | simp), trivial⟩ (by simp) (by intro S _ _ h; simp) (fun F n0 X w ρ hC hro => ?_)
  refine wsr ?_
  refine wp rfl hC (ox_box hC (.tmp rfl) (flat_recX rfl) (by first | exact cells_ag | rfl) rfl rfl) ?_
  refine wp rfl hC (oc_assign hC .cbool rfl rfl) ?_
  refine WL_nil ?_
  refine W_seq ?_
  rcases (show (¬ RightR k v n b.length ∧ 500 < b.length) ∨ (¬ RightR k v n b.length ∧ b.length ≤ 500) ∨ (RightR k v n b.length ∧ 500 < b.length) ∨ (RightR k v n b.length ∧ b.length ≤ 500 ∧ at_ < 0) ∨ (RightR k v n b.length ∧ b.length ≤ 500 ∧ 0 ≤ at_ ∧ ((encL k id v n b).length : Int) ≤ at_) ∨ (RightR k v n b.length ∧ b.length ≤ 500 ∧ 0 ≤ at_ ∧ at_ < ((encL k id v n b).length : Int) ∧ y = 0) ∨ (RightR k v n b.length ∧ b.length ≤ 500 ∧ 0 ≤ at_ ∧ at_ < ((encL k id v n b).length : Int) ∧ y ≠ 0) from by
    rcases right_dec k v n b.length with g | g
    · rcases Nat.lt_or_ge 500 b.length with g2 | g2
      · exact .inr (.inr (.inl ⟨g, g2⟩))
      · have : at_ < 0 ∨ (0 ≤ at_ ∧ ((encL k id v n b).length : Int) ≤ at_) ∨ (0 ≤ at_ ∧ at_ < ((encL k id v n b).length : Int) ∧ y = 0) ∨ (0 ≤ at_ ∧ at_ < ((encL k id v n b).length : Int) ∧ y ≠ 0) := by omega
        rcases this with g3 | g3 | g3 | g3
        · exact .inr (.inr (.inr (.inl ⟨g, g2, g3⟩)))
        · exact .inr (.inr (.inr (.inr (.inl ⟨g, g2, g3⟩))))
        · exact .inr (.inr (.inr (.inr (.inr (.inl ⟨g, g2, g3⟩)))))
        · exact .inr (.inr (.inr (.inr (.inr (.inr ⟨g, g2, g3⟩)))))
    · rcases Nat.lt_or_ge 500 b.length with g2 | g2
      · exact .inl ⟨g, g2⟩
      · exact .inr (.inl ⟨g, g2⟩)) with ⟨hR, h_⟩ | ⟨hR, h_⟩ | ⟨hR, h_⟩ | ⟨hR, h_, h2_⟩ | ⟨hR, h_, h2_, h3_⟩ | ⟨hR, h_, h2_, h3_, h4_⟩ | ⟨hR, h_, h2_, h3_, h4_⟩
  ·
    refine W_region ?_
    refine wp rfl hC (oc_load hC (.tmp rfl) (by first | exact .p rfl | exact .rp) shp_39 (by exact (unit_rall hid)) rfl rfl) ?_
    refine wp rfl hC (oc_call hC (.cons (.tmp rfl) .nil) (.cons1 (.free (by first | exact inSL_I _ | simp)) (.same (by first | exact inSL_I _ | simp))) (encodeno_c k id v n b hid bid bb hR) (glob_cons rfl rfl (by first | exact inSL_I _ | simp) glob_nil) (by first | exact inSL_I _ | simp) (by first | exact .inl rfl | exact .inr (by simp)) rfl rfl) ?_
    refine wp rfl hC (oc_move hC (.tmp rfl) rfl rfl) ?_
    refine wp rfl hC (oc_extract hC (.tmp rfl) rfl rfl rfl) ?_
    refine wp rfl hC (oc_extract hC (.tmp rfl) rfl rfl rfl) ?_
    refine wp rfl hC (oc_assign hC (.tmp rfl) rfl rfl) ?_
    refine wp rfl hC (oc_assign hC (.tmp rfl) rfl rfl) ?_
    refine WL_nil ?_
    refine W_seq ?_
    refine wsr ?_
    refine wp rfl hC (oc_field hC (.tmp rfl) fld_39_4 (by decide) (by first | exact .p (Nat.zero_add _) | exact .p rfl | exact .rp (by decide)) rfl rfl) ?_
    refine wp rfl hC (oc_load hC (.tmp rfl) (by first | exact .p rfl | exact .rp) shp_25 (by exact (unit_rz hid)) rfl rfl) ?_
    refine wp rfl hC (ox_len hC (.tmp rfl) (by first | exact .row rfl | exact .vs | exact .sl rfl | exact .nils) Tryd.underlying25 rfl rfl rfl) ?_
    refine wp rfl hC (ox_cmp hC rfl (.tmp rfl) .cint (r := true) (by simp only [cmpI]; exact decide_eq_true (by omega)) rfl rfl) ?_
    refine wp rfl hC (oc_move hC (.tmp rfl) rfl rfl) ?_
    refine WL_cons hC.fn (.no (s1 := ⟨_, (21, .tu []) :: _, _⟩) rfl rfl (by decide) rfl (by decide) (fun t ht => by cases ht; exact ⟨blt_lt rfl, blt_lt rfl⟩) (fun t => setE_cons _ _ _ _) rfl rfl) ?_
    refine WL_cons hC.fn (.no (s1 := ⟨_, (22, .tu []) :: _, _⟩) rfl rfl (by decide) rfl (by decide) (fun t ht => by cases ht; exact ⟨blt_lt rfl, blt_lt rfl⟩) (fun t => setE_cons _ _ _ _) rfl rfl) ?_
    refine wp rfl hC (ox_pick hC (.tmp rfl) .cbool (.tmp rfl) (by first | exact pick_t | exact pick_f | rfl) rfl rfl) ?_
    refine wp rfl hC (oc_move hC (.tmp rfl) rfl rfl) ?_
    refine WL_cons hC.fn (.no (s1 := ⟨_, (25, .tu []) :: _, _⟩) rfl rfl (by decide) rfl (by decide) (fun t ht => by cases ht; exact ⟨blt_lt rfl, blt_lt rfl⟩) (fun t => setE_cons _ _ _ _) rfl rfl) ?_
    refine WL_cons hC.fn (.no (s1 := ⟨_, (26, .tu []) :: _, _⟩) rfl rfl (by decide) rfl (by decide) (fun t ht => by cases ht; exact ⟨blt_lt rfl, blt_lt rfl⟩) (fun t => setE_cons _ _ _ _) rfl rfl) ?_
    refine wp rfl hC (ox_pick hC (.tmp rfl) .cbool (.tmp rfl) (by first | exact pick_t | exact pick_f | rfl) rfl rfl) ?_
    refine wp rfl hC (oc_move hC (.tmp rfl) rfl rfl) ?_
    refine WL_cons hC.fn (.no (s1 := ⟨_, (29, .tu []) :: _, _⟩) rfl rfl (by decide) rfl (by decide) (fun t ht => by cases ht; exact ⟨blt_lt rfl, blt_lt rfl⟩) (fun t => setE_cons _ _ _ _) rfl rfl) ?_
    refine WL_cons hC.fn (.no (s1 := ⟨_, (30, .tu []) :: _, _⟩) rfl rfl (by decide) rfl (by decide) (fun t ht => by cases ht; exact ⟨blt_lt rfl, blt_lt rfl⟩) (fun t => setE_cons _ _ _ _) rfl rfl) ?_
    refine WL_cons hC.fn (.no (s1 := ⟨_, (31, .tu []) :: _, _⟩) rfl rfl (by decide) rfl (by decide) (fun t ht => by cases ht; exact ⟨blt_lt rfl, blt_lt rfl⟩) (fun t => setE_cons _ _ _ _) rfl rfl) ?_
    refine WL_cons hC.fn (.no (s1 := ⟨_, (32, .tu []) :: _, _⟩) rfl rfl (by decide) rfl (by decide) (fun t ht => by cases ht; exact ⟨blt_lt rfl, blt_lt rfl⟩) (fun t => setE_cons _ _ _ _) rfl rfl) ?_
    refine wp rfl hC (ox_pick hC (.tmp rfl) .cbool (.tmp rfl) (by first | exact pick_t | exact pick_f | rfl) rfl rfl) ?_
    refine wp rfl hC (oc_move hC (.tmp rfl) rfl rfl) ?_
    refine WL_cons hC.fn (.no (s1 := ⟨_, (35, .tu []) :: _, _⟩) rfl rfl (by decide) rfl (by decide) (fun t ht => by cases ht; exact ⟨blt_lt rfl, blt_lt rfl⟩) (fun t => setE_cons _ _ _ _) rfl rfl) ?_
    refine WL_cons hC.fn (.no (s1 := ⟨_, (36, .tu []) :: _, _⟩) rfl rfl (by decide) rfl (by decide) (fun t ht => by cases ht; exact ⟨blt_lt rfl, blt_lt rfl⟩) (fun t => setE_cons _ _ _ _) rfl rfl) ?_
    refine wp rfl hC (ox_pick hC (.tmp rfl) .cbool (.tmp rfl) (by first | exact pick_t | exact pick_f | rfl) rfl rfl) ?_
    refine WL_nil ?_
    refine W_cond rfl (by decide) (fun _ => ?_) (fun hc => by cases hc)
    refine wsr ?_
    refine wp rfl hC (oc_call hC .nil (.same (by first | exact inSL_I _ | simp)) (awake14_c) (glob_cons rfl rfl (by first | exact inSL_I _ | simp) glob_nil) (by first | exact inSL_I _ | simp) (by first | exact .inl rfl | exact .inr (by simp)) rfl rfl) ?_
    refine wp rfl hC (oc_assign hC (.tmp rfl) rfl rfl) ?_
    refine WL_nil ?_
    refine W_ret ?_
    exact fin0 (.cons (.tmp rfl) .nil) rfl trivial
  ·
    refine W_region ?_
    refine wp rfl hC (oc_load hC (.tmp rfl) (by first | exact .p rfl | exact .rp) shp_39 (by exact (unit_rall hid)) rfl rfl) ?_
    refine wp rfl hC (oc_call hC (.cons (.tmp rfl) .nil) (.cons1 (.free (by first | exact inSL_I _ | simp)) (.same (by first | exact inSL_I _ | simp))) (encodeno_c k id v n b hid bid bb hR) (glob_cons rfl rfl (by first | exact inSL_I _ | simp) glob_nil) (by first | exact inSL_I _ | simp) (by first | exact .inl rfl | exact .inr (by simp)) rfl rfl) ?_
    refine wp rfl hC (oc_move hC (.tmp rfl) rfl rfl) ?_
    refine wp rfl hC (oc_extract hC (.tmp rfl) rfl rfl rfl) ?_
    refine wp rfl hC (oc_extract hC (.tmp rfl) rfl rfl rfl) ?_
    refine wp rfl hC (oc_assign hC (.tmp rfl) rfl rfl) ?_
    refine wp rfl hC (oc_assign hC (.tmp rfl) rfl rfl) ?_
    refine WL_nil ?_
    refine W_seq ?_
    refine wsr ?_
    refine wp rfl hC (oc_field hC (.tmp rfl) fld_39_4 (by decide) (by first | exact .p (Nat.zero_add _) | exact .p rfl | exact .rp (by decide)) rfl rfl) ?_
    refine wp rfl hC (oc_load hC (.tmp rfl) (by first | exact .p rfl | exact .rp) shp_25 (by exact (unit_rz hid)) rfl rfl) ?_
    refine wp rfl hC (ox_len hC (.tmp rfl) (by first | exact .row rfl | exact .vs | exact .sl rfl | exact .nils) Tryd.underlying25 rfl rfl rfl) ?_
    refine wp rfl hC (ox_cmp hC rfl (.tmp rfl) .cint (r := false) (by simp only [cmpI]; exact decide_eq_false (by omega)) rfl rfl) ?_
    refine wp rfl hC (oc_move hC (.tmp rfl) rfl rfl) ?_
    refine WL_cons hC.fn (.yes rfl rfl (by decide) rfl (oc_move hC (.tmp rfl) rfl rfl)) ?_
    refine WL_cons hC.fn (.yes rfl rfl (by decide) rfl (ox_cmp hC rfl (.tmp rfl) .cint (r := true) rfl rfl rfl)) ?_
    refine wp rfl hC (ox_pick hC (.tmp rfl) .cbool (.tmp rfl) (by first | exact pick_t | exact pick_f | rfl) rfl rfl) ?_
    refine wp rfl hC (oc_move hC (.tmp rfl) rfl rfl) ?_
    refine WL_cons hC.fn (.no (s1 := ⟨_, (25, .tu []) :: _, _⟩) rfl rfl (by decide) rfl (by decide) (fun t ht => by cases ht; exact ⟨blt_lt rfl, blt_lt rfl⟩) (fun t => setE_cons _ _ _ _) rfl rfl) ?_
    refine WL_cons hC.fn (.no (s1 := ⟨_, (26, .tu []) :: _, _⟩) rfl rfl (by decide) rfl (by decide) (fun t ht => by cases ht; exact ⟨blt_lt rfl, blt_lt rfl⟩) (fun t => setE_cons _ _ _ _) rfl rfl) ?_
    refine wp rfl hC (ox_pick hC (.tmp rfl) .cbool (.tmp rfl) (by first | exact pick_t | exact pick_f | rfl) rfl rfl) ?_
    refine wp rfl hC (oc_move hC (.tmp rfl) rfl rfl) ?_
    refine WL_cons hC.fn (.no (s1 := ⟨_, (29, .tu []) :: _, _⟩) rfl rfl (by decide) rfl (by decide) (fun t ht => by cases ht; exact ⟨blt_lt rfl, blt_lt rfl⟩) (fun t => setE_cons _ _ _ _) rfl rfl) ?_
    refine WL_cons hC.fn (.no (s1 := ⟨_, (30, .tu []) :: _, _⟩) rfl rfl (by decide) rfl (by decide) (fun t ht => by cases ht; exact ⟨blt_lt rfl, blt_lt rfl⟩) (fun t => setE_cons _ _ _ _) rfl rfl) ?_
    refine WL_cons hC.fn (.no (s1 := ⟨_, (31, .tu []) :: _, _⟩) rfl rfl (by decide) rfl (by decide) (fun t ht => by cases ht; exact ⟨blt_lt rfl, blt_lt rfl⟩) (fun t => setE_cons _ _ _ _) rfl rfl) ?_
    refine WL_cons hC.fn (.no (s1 := ⟨_, (32, .tu []) :: _, _⟩) rfl rfl (by decide) rfl (by decide) (fun t ht => by cases ht; exact ⟨blt_lt rfl, blt_lt rfl⟩) (fun t => setE_cons _ _ _ _) rfl rfl) ?_
    refine wp rfl hC (ox_pick hC (.tmp rfl) .cbool (.tmp rfl) (by first | exact pick_t | exact pick_f | rfl) rfl rfl) ?_
    refine wp rfl hC (oc_move hC (.tmp rfl) rfl rfl) ?_
    refine WL_cons hC.fn (.no (s1 := ⟨_, (35, .tu []) :: _, _⟩) rfl rfl (by decide) rfl (by decide) (fun t ht => by cases ht; exact ⟨blt_lt rfl, blt_lt rfl⟩) (fun t => setE_cons _ _ _ _) rfl rfl) ?_
    refine WL_cons hC.fn (.no (s1 := ⟨_, (36, .tu []) :: _, _⟩) rfl rfl (by decide) rfl (by decide) (fun t ht => by cases ht; exact ⟨blt_lt rfl, blt_lt rfl⟩) (fun t => setE_cons _ _ _ _) rfl rfl) ?_
    refine wp rfl hC (ox_pick hC (.tmp rfl) .cbool (.tmp rfl) (by first | exact pick_t | exact pick_f | rfl) rfl rfl) ?_
    refine WL_nil ?_
    refine W_cond rfl (by decide) (fun _ => ?_) (fun hc => by cases hc)
    refine wsr ?_
    refine wp rfl hC (oc_call hC .nil (.same (by first | exact inSL_I _ | simp)) (awake14_c) (glob_cons rfl rfl (by first | exact inSL_I _ | simp) glob_nil) (by first | exact inSL_I _ | simp) (by first | exact .inl rfl | exact .inr (by simp)) rfl rfl) ?_
    refine wp rfl hC (oc_assign hC (.tmp rfl) rfl rfl) ?_
    refine WL_nil ?_
    refine W_ret ?_
    exact fin0 (.cons (.tmp rfl) .nil) rfl trivial
  ·
    refine W_region ?_
    refine wp rfl hC (oc_load hC (.tmp rfl) (by first | exact .p rfl | exact .rp) shp_39 (by exact (unit_rall hid)) rfl rfl) ?_
    refine wp rfl hC (oc_callN hC (.cons (.tmp rfl) .nil) (.cons1 (.free (by first | exact inSL_I _ | simp)) (.same (by first | exact inSL_I _ | simp))) (encode_c k id v n b hid bid bb hR) (glob_cons rfl rfl (by first | exact inSL_I _ | simp) glob_nil) (by first | exact inSL_I _ | simp) rfl (by first | exact .inl rfl | exact .inr ⟨by simp, novsL_I _⟩ | exact .inr ⟨by simp, by simp⟩) rfl rfl) ?_
    refine wp rfl hC (oc_move hC (.tmp rfl) rfl rfl) ?_
    refine wp rfl hC (oc_extract hC (.tmp rfl) rfl rfl rfl) ?_
    refine wp rfl hC (oc_extract hC (.tmp rfl) rfl rfl rfl) ?_
    refine wp rfl hC (oc_assign hC (.tmp rfl) rfl rfl) ?_
    refine wp rfl hC (oc_assign hC (.tmp rfl) rfl rfl) ?_
    refine WL_nil ?_
    refine W_seq ?_
    refine wsr ?_
    refine wp rfl hC (oc_field hC (.tmp rfl) fld_39_4 (by decide) (by first | exact .p (Nat.zero_add _) | exact .p rfl | exact .rp (by decide)) rfl rfl) ?_
    refine wp rfl hC (oc_load hC (.tmp rfl) (by first | exact .p rfl | exact .rp) shp_25 (by exact (unit_rz hid)) rfl rfl) ?_
    refine wp rfl hC (ox_len hC (.tmp rfl) (by first | exact .row rfl | exact .vs | exact .sl rfl | exact .nils) Tryd.underlying25 rfl rfl rfl) ?_
    refine wp rfl hC (ox_cmp hC rfl (.tmp rfl) .cint (r := true) (by simp only [cmpI]; exact decide_eq_true (by omega)) rfl rfl) ?_
    refine wp rfl hC (oc_move hC (.tmp rfl) rfl rfl) ?_
    refine WL_cons hC.fn (.no (s1 := ⟨_, (21, .tu []) :: _, _⟩) rfl rfl (by decide) rfl (by decide) (fun t ht => by cases ht; exact ⟨blt_lt rfl, blt_lt rfl⟩) (fun t => setE_cons _ _ _ _) rfl rfl) ?_
    refine WL_cons hC.fn (.no (s1 := ⟨_, (22, .tu []) :: _, _⟩) rfl rfl (by decide) rfl (by decide) (fun t ht => by cases ht; exact ⟨blt_lt rfl, blt_lt rfl⟩) (fun t => setE_cons _ _ _ _) rfl rfl) ?_
    refine wp rfl hC (ox_pick hC (.tmp rfl) .cbool (.tmp rfl) (by first | exact pick_t | exact pick_f | rfl) rfl rfl) ?_
    refine wp rfl hC (oc_move hC (.tmp rfl) rfl rfl) ?_
    refine WL_cons hC.fn (.no (s1 := ⟨_, (25, .tu []) :: _, _⟩) rfl rfl (by decide) rfl (by decide) (fun t ht => by cases ht; exact ⟨blt_lt rfl, blt_lt rfl⟩) (fun t => setE_cons _ _ _ _) rfl rfl) ?_
    refine WL_cons hC.fn (.no (s1 := ⟨_, (26, .tu []) :: _, _⟩) rfl rfl (by decide) rfl (by decide) (fun t ht => by cases ht; exact ⟨blt_lt rfl, blt_lt rfl⟩) (fun t => setE_cons _ _ _ _) rfl rfl) ?_
    refine wp rfl hC (ox_pick hC (.tmp rfl) .cbool (.tmp rfl) (by first | exact pick_t | exact pick_f | rfl) rfl rfl) ?_
    refine wp rfl hC (oc_move hC (.tmp rfl) rfl rfl) ?_
    refine WL_cons hC.fn (.no (s1 := ⟨_, (29, .tu []) :: _, _⟩) rfl rfl (by decide) rfl (by decide) (fun t ht => by cases ht; exact ⟨blt_lt rfl, blt_lt rfl⟩) (fun t => setE_cons _ _ _ _) rfl rfl) ?_
    refine WL_cons hC.fn (.no (s1 := ⟨_, (30, .tu []) :: _, _⟩) rfl rfl (by decide) rfl (by decide) (fun t ht => by cases ht; exact ⟨blt_lt rfl, blt_lt rfl⟩) (fun t => setE_cons _ _ _ _) rfl rfl) ?_
    refine WL_cons hC.fn (.no (s1 := ⟨_, (31, .tu []) :: _, _⟩) rfl rfl (by decide) rfl (by decide) (fun t ht => by cases ht; exact ⟨blt_lt rfl, blt_lt rfl⟩) (fun t => setE_cons _ _ _ _) rfl rfl) ?_
    refine WL_cons hC.fn (.no (s1 := ⟨_, (32, .tu []) :: _, _⟩) rfl rfl (by decide) rfl (by decide) (fun t ht => by cases ht; exact ⟨blt_lt rfl, blt_lt rfl⟩) (fun t => setE_cons _ _ _ _) rfl rfl) ?_
    refine wp rfl hC (ox_pick hC (.tmp rfl) .cbool (.tmp rfl) (by first | exact pick_t | exact pick_f | rfl) rfl rfl) ?_
    refine wp rfl hC (oc_move hC (.tmp rfl) rfl rfl) ?_
    refine WL_cons hC.fn (.no (s1 := ⟨_, (35, .tu []) :: _, _⟩) rfl rfl (by decide) rfl (by decide) (fun t ht => by cases ht; exact ⟨blt_lt rfl, blt_lt rfl⟩) (fun t => setE_cons _ _ _ _) rfl rfl) ?_
    refine WL_cons hC.fn (.no (s1 := ⟨_, (36, .tu []) :: _, _⟩) rfl rfl (by decide) rfl (by decide) (fun t ht => by cases ht; exact ⟨blt_lt rfl, blt_lt rfl⟩) (fun t => setE_cons _ _ _ _) rfl rfl) ?_
    refine wp rfl hC (ox_pick hC (.tmp rfl) .cbool (.tmp rfl) (by first | exact pick_t | exact pick_f | rfl) rfl rfl) ?_
    refine WL_nil ?_
    refine W_cond rfl (by decide) (fun _ => ?_) (fun hc => by cases hc)
    refine wsr ?_
    refine wp rfl hC (oc_call hC .nil (.same (by first | exact inSL_I _ | simp)) (awake14_c) (glob_cons rfl rfl (by first | exact inSL_I _ | simp) glob_nil) (by first | exact inSL_I _ | simp) (by first | exact .inl rfl | exact .inr (by simp)) rfl rfl) ?_
    refine wp rfl hC (oc_assign hC (.tmp rfl) rfl rfl) ?_
    refine WL_nil ?_
    refine W_ret ?_
    exact fin0 (.cons (.tmp rfl) .nil) rfl trivial
  ·
    refine W_region ?_
    refine wp rfl hC (oc_load hC (.tmp rfl) (by first | exact .p rfl | exact .rp) shp_39 (by exact (unit_rall hid)) rfl rfl) ?_
    refine wp rfl hC (oc_callN hC (.cons (.tmp rfl) .nil) (.cons1 (.free (by first | exact inSL_I _ | simp)) (.same (by first | exact inSL_I _ | simp))) (encode_c k id v n b hid bid bb hR) (glob_cons rfl rfl (by first | exact inSL_I _ | simp) glob_nil) (by first | exact inSL_I _ | simp) rfl (by first | exact .inl rfl | exact .inr ⟨by simp, novsL_I _⟩ | exact .inr ⟨by simp, by simp⟩) rfl rfl) ?_
    refine wp rfl hC (oc_move hC (.tmp rfl) rfl rfl) ?_
    refine wp rfl hC (oc_extract hC (.tmp rfl) rfl rfl rfl) ?_
    refine wp rfl hC (oc_extract hC (.tmp rfl) rfl rfl rfl) ?_
    refine wp rfl hC (oc_assign hC (.tmp rfl) rfl rfl) ?_
    refine wp rfl hC (oc_assign hC (.tmp rfl) rfl rfl) ?_
    refine WL_nil ?_
    refine W_seq ?_
    refine wsr ?_
    refine wp rfl hC (oc_field hC (.tmp rfl) fld_39_4 (by decide) (by first | exact .p (Nat.zero_add _) | exact .p rfl | exact .rp (by decide)) rfl rfl) ?_
    refine wp rfl hC (oc_load hC (.tmp rfl) (by first | exact .p rfl | exact .rp) shp_25 (by exact (unit_rz hid)) rfl rfl) ?_
    refine wp rfl hC (ox_len hC (.tmp rfl) (by first | exact .row rfl | exact .vs | exact .sl rfl | exact .nils) Tryd.underlying25 rfl rfl rfl) ?_
    refine wp rfl hC (ox_cmp hC rfl (.tmp rfl) .cint (r := false) (by simp only [cmpI]; exact decide_eq_false (by omega)) rfl rfl) ?_
    refine wp rfl hC (oc_move hC (.tmp rfl) rfl rfl) ?_
    refine WL_cons hC.fn (.yes rfl rfl (by decide) rfl (oc_move hC (.tmp rfl) rfl rfl)) ?_
    refine WL_cons hC.fn (.yes rfl rfl (by decide) rfl (ox_cmp hC rfl (.tmp rfl) .cint (r := false) rfl rfl rfl)) ?_
    refine wp rfl hC (ox_pick hC (.tmp rfl) .cbool (.tmp rfl) (by first | exact pick_t | exact pick_f | rfl) rfl rfl) ?_
    refine wp rfl hC (oc_move hC (.tmp rfl) rfl rfl) ?_
    refine WL_cons hC.fn (.yes rfl rfl (by decide) rfl (oc_move hC (.tmp rfl) rfl rfl)) ?_
    refine WL_cons hC.fn (.yes rfl rfl (by decide) rfl (ox_cmp hC rfl (.tmp rfl) .cint (r := true) (by simp only [cmpI]; exact decide_eq_true (by omega)) rfl rfl)) ?_
    refine wp rfl hC (ox_pick hC (.tmp rfl) .cbool (.tmp rfl) (by first | exact pick_t | exact pick_f | rfl) rfl rfl) ?_
    refine wp rfl hC (oc_move hC (.tmp rfl) rfl rfl) ?_
    refine WL_cons hC.fn (.no (s1 := ⟨_, (29, .tu []) :: _, _⟩) rfl rfl (by decide) rfl (by decide) (fun t ht => by cases ht; exact ⟨blt_lt rfl, blt_lt rfl⟩) (fun t => setE_cons _ _ _ _) rfl rfl) ?_
    refine WL_cons hC.fn (.no (s1 := ⟨_, (30, .tu []) :: _, _⟩) rfl rfl (by decide) rfl (by decide) (fun t ht => by cases ht; exact ⟨blt_lt rfl, blt_lt rfl⟩) (fun t => setE_cons _ _ _ _) rfl rfl) ?_
    refine WL_cons hC.fn (.no (s1 := ⟨_, (31, .tu []) :: _, _⟩) rfl rfl (by decide) rfl (by decide) (fun t ht => by cases ht; exact ⟨blt_lt rfl, blt_lt rfl⟩) (fun t => setE_cons _ _ _ _) rfl rfl) ?_
    refine WL_cons hC.fn (.no (s1 := ⟨_, (32, .tu []) :: _, _⟩) rfl rfl (by decide) rfl (by decide) (fun t ht => by cases ht; exact ⟨blt_lt rfl, blt_lt rfl⟩) (fun t => setE_cons _ _ _ _) rfl rfl) ?_
    refine wp rfl hC (ox_pick hC (.tmp rfl) .cbool (.tmp rfl) (by first | exact pick_t | exact pick_f | rfl) rfl rfl) ?_
    refine wp rfl hC (oc_move hC (.tmp rfl) rfl rfl) ?_
    refine WL_cons hC.fn (.no (s1 := ⟨_, (35, .tu []) :: _, _⟩) rfl rfl (by decide) rfl (by decide) (fun t ht => by cases ht; exact ⟨blt_lt rfl, blt_lt rfl⟩) (fun t => setE_cons _ _ _ _) rfl rfl) ?_
    refine WL_cons hC.fn (.no (s1 := ⟨_, (36, .tu []) :: _, _⟩) rfl rfl (by decide) rfl (by decide) (fun t ht => by cases ht; exact ⟨blt_lt rfl, blt_lt rfl⟩) (fun t => setE_cons _ _ _ _) rfl rfl) ?_
    refine wp rfl hC (ox_pick hC (.tmp rfl) .cbool (.tmp rfl) (by first | exact pick_t | exact pick_f | rfl) rfl rfl) ?_
    refine WL_nil ?_
    refine W_cond rfl (by decide) (fun _ => ?_) (fun hc => by cases hc)
    refine wsr ?_
    refine wp rfl hC (oc_call hC .nil (.same (by first | exact inSL_I _ | simp)) (awake14_c) (glob_cons rfl rfl (by first | exact inSL_I _ | simp) glob_nil) (by first | exact inSL_I _ | simp) (by first | exact .inl rfl | exact .inr (by simp)) rfl rfl) ?_
    refine wp rfl hC (oc_assign hC (.tmp rfl) rfl rfl) ?_
    refine WL_nil ?_
    refine W_ret ?_
    exact fin0 (.cons (.tmp rfl) .nil) rfl trivial
  ·
    refine W_region ?_
    refine wp rfl hC (oc_load hC (.tmp rfl) (by first | exact .p rfl | exact .rp) shp_39 (by exact (unit_rall hid)) rfl rfl) ?_
    refine wp rfl hC (oc_callN hC (.cons (.tmp rfl) .nil) (.cons1 (.free (by first | exact inSL_I _ | simp)) (.same (by first | exact inSL_I _ | simp))) (encode_c k id v n b hid bid bb hR) (glob_cons rfl rfl (by first | exact inSL_I _ | simp) glob_nil) (by first | exact inSL_I _ | simp) rfl (by first | exact .inl rfl | exact .inr ⟨by simp, novsL_I _⟩ | exact .inr ⟨by simp, by simp⟩) rfl rfl) ?_
    refine wp rfl hC (oc_move hC (.tmp rfl) rfl rfl) ?_
    refine wp rfl hC (oc_extract hC (.tmp rfl) rfl rfl rfl) ?_
    refine wp rfl hC (oc_extract hC (.tmp rfl) rfl rfl rfl) ?_
    refine wp rfl hC (oc_assign hC (.tmp rfl) rfl rfl) ?_
    refine wp rfl hC (oc_assign hC (.tmp rfl) rfl rfl) ?_
    refine WL_nil ?_
    refine W_seq ?_
    refine wsr ?_
    refine wp rfl hC (oc_field hC (.tmp rfl) fld_39_4 (by decide) (by first | exact .p (Nat.zero_add _) | exact .p rfl | exact .rp (by decide)) rfl rfl) ?_
    refine wp rfl hC (oc_load hC (.tmp rfl) (by first | exact .p rfl | exact .rp) shp_25 (by exact (unit_rz hid)) rfl rfl) ?_
    refine wp rfl hC (ox_len hC (.tmp rfl) (by first | exact .row rfl | exact .vs | exact .sl rfl | exact .nils) Tryd.underlying25 rfl rfl rfl) ?_
    refine wp rfl hC (ox_cmp hC rfl (.tmp rfl) .cint (r := false) (by simp only [cmpI]; exact decide_eq_false (by omega)) rfl rfl) ?_
    refine wp rfl hC (oc_move hC (.tmp rfl) rfl rfl) ?_
    refine WL_cons hC.fn (.yes rfl rfl (by decide) rfl (oc_move hC (.tmp rfl) rfl rfl)) ?_
    refine WL_cons hC.fn (.yes rfl rfl (by decide) rfl (ox_cmp hC rfl (.tmp rfl) .cint (r := false) rfl rfl rfl)) ?_
    refine wp rfl hC (ox_pick hC (.tmp rfl) .cbool (.tmp rfl) (by first | exact pick_t | exact pick_f | rfl) rfl rfl) ?_
    refine wp rfl hC (oc_move hC (.tmp rfl) rfl rfl) ?_
    refine WL_cons hC.fn (.yes rfl rfl (by decide) rfl (oc_move hC (.tmp rfl) rfl rfl)) ?_
    refine WL_cons hC.fn (.yes rfl rfl (by decide) rfl (ox_cmp hC rfl (.tmp rfl) .cint (r := false) (by simp only [cmpI]; exact decide_eq_false (by omega)) rfl rfl)) ?_
    refine wp rfl hC (ox_pick hC (.tmp rfl) .cbool (.tmp rfl) (by first | exact pick_t | exact pick_f | rfl) rfl rfl) ?_
    refine wp rfl hC (oc_move hC (.tmp rfl) rfl rfl) ?_
    refine WL_cons hC.fn (.yes rfl rfl (by decide) rfl (oc_move hC (.tmp rfl) rfl rfl)) ?_
    refine WL_cons hC.fn (.yes rfl rfl (by decide) rfl (oc_move hC (.tmp rfl) rfl rfl)) ?_
    refine WL_cons hC.fn (.yes rfl rfl (by decide) rfl (ox_len hC (.tmp rfl) (by first | exact .row rfl | exact .vs | exact .sl rfl | exact .nils) Tryd.underlying25 rfl rfl rfl)) ?_
    refine WL_cons hC.fn (.yes rfl rfl (by decide) rfl (ox_cmp hC rfl (.tmp rfl) (.tmp rfl) (r := true) (by simp only [cmpI]; exact decide_eq_true (by omega)) rfl rfl)) ?_
    refine wp rfl hC (ox_pick hC (.tmp rfl) .cbool (.tmp rfl) (by first | exact pick_t | exact pick_f | rfl) rfl rfl) ?_
    refine wp rfl hC (oc_move hC (.tmp rfl) rfl rfl) ?_
    refine WL_cons hC.fn (.no (s1 := ⟨_, (35, .tu []) :: _, _⟩) rfl rfl (by decide) rfl (by decide) (fun t ht => by cases ht; exact ⟨blt_lt rfl, blt_lt rfl⟩) (fun t => setE_cons _ _ _ _) rfl rfl) ?_
    refine WL_cons hC.fn (.no (s1 := ⟨_, (36, .tu []) :: _, _⟩) rfl rfl (by decide) rfl (by decide) (fun t ht => by cases ht; exact ⟨blt_lt rfl, blt_lt rfl⟩) (fun t => setE_cons _ _ _ _) rfl rfl) ?_
    refine wp rfl hC (ox_pick hC (.tmp rfl) .cbool (.tmp rfl) (by first | exact pick_t | exact pick_f | rfl) rfl rfl) ?_
    refine WL_nil ?_
    refine W_cond rfl (by decide) (fun _ => ?_) (fun hc => by cases hc)
    refine wsr ?_
    refine wp rfl hC (oc_call hC .nil (.same (by first | exact inSL_I _ | simp)) (awake14_c) (glob_cons rfl rfl (by first | exact inSL_I _ | simp) glob_nil) (by first | exact inSL_I _ | simp) (by first | exact .inl rfl | exact .inr (by simp)) rfl rfl) ?_
    refine wp rfl hC (oc_assign hC (.tmp rfl) rfl rfl) ?_
    refine WL_nil ?_
    refine W_ret ?_
    exact fin0 (.cons (.tmp rfl) .nil) rfl trivial
  ·
    refine W_region ?_
    refine wp rfl hC (oc_load hC (.tmp rfl) (by first | exact .p rfl | exact .rp) shp_39 (by exact (unit_rall hid)) rfl rfl) ?_
    refine wp rfl hC (oc_callN hC (.cons (.tmp rfl) .nil) (.cons1 (.free (by first | exact inSL_I _ | simp)) (.same (by first | exact inSL_I _ | simp))) (encode_c k id v n b hid bid bb hR) (glob_cons rfl rfl (by first | exact inSL_I _ | simp) glob_nil) (by first | exact inSL_I _ | simp) rfl (by first | exact .inl rfl | exact .inr ⟨by simp, novsL_I _⟩ | exact .inr ⟨by simp, by simp⟩) rfl rfl) ?_
    refine wp rfl hC (oc_move hC (.tmp rfl) rfl rfl) ?_
    refine wp rfl hC (oc_extract hC (.tmp rfl) rfl rfl rfl) ?_
    refine wp rfl hC (oc_extract hC (.tmp rfl) rfl rfl rfl) ?_
    refine wp rfl hC (oc_assign hC (.tmp rfl) rfl rfl) ?_
    refine wp rfl hC (oc_assign hC (.tmp rfl) rfl rfl) ?_
    refine WL_nil ?_
    refine W_seq ?_
    refine wsr ?_
    refine wp rfl hC (oc_field hC (.tmp rfl) fld_39_4 (by decide) (by first | exact .p (Nat.zero_add _) | exact .p rfl | exact .rp (by decide)) rfl rfl) ?_
    refine wp rfl hC (oc_load hC (.tmp rfl) (by first | exact .p rfl | exact .rp) shp_25 (by exact (unit_rz hid)) rfl rfl) ?_
    refine wp rfl hC (ox_len hC (.tmp rfl) (by first | exact .row rfl | exact .vs | exact .sl rfl | exact .nils) Tryd.underlying25 rfl rfl rfl) ?_
    refine wp rfl hC (ox_cmp hC rfl (.tmp rfl) .cint (r := false) (by simp only [cmpI]; exact decide_eq_false (by omega)) rfl rfl) ?_
    refine wp rfl hC (oc_move hC (.tmp rfl) rfl rfl) ?_
    refine WL_cons hC.fn (.yes rfl rfl (by decide) rfl (oc_move hC (.tmp rfl) rfl rfl)) ?_
    refine WL_cons hC.fn (.yes rfl rfl (by decide) rfl (ox_cmp hC rfl (.tmp rfl) .cint (r := false) rfl rfl rfl)) ?_
    refine wp rfl hC (ox_pick hC (.tmp rfl) .cbool (.tmp rfl) (by first | exact pick_t | exact pick_f | rfl) rfl rfl) ?_
    refine wp rfl hC (oc_move hC (.tmp rfl) rfl rfl) ?_
    refine WL_cons hC.fn (.yes rfl rfl (by decide) rfl (oc_move hC (.tmp rfl) rfl rfl)) ?_
    refine WL_cons hC.fn (.yes rfl rfl (by decide) rfl (ox_cmp hC rfl (.tmp rfl) .cint (r := false) (by simp only [cmpI]; exact decide_eq_false (by omega)) rfl rfl)) ?_
    refine wp rfl hC (ox_pick hC (.tmp rfl) .cbool (.tmp rfl) (by first | exact pick_t | exact pick_f | rfl) rfl rfl) ?_
    refine wp rfl hC (oc_move hC (.tmp rfl) rfl rfl) ?_
    refine WL_cons hC.fn (.yes rfl rfl (by decide) rfl (oc_move hC (.tmp rfl) rfl rfl)) ?_
    refine WL_cons hC.fn (.yes rfl rfl (by decide) rfl (oc_move hC (.tmp rfl) rfl rfl)) ?_
    refine WL_cons hC.fn (.yes rfl rfl (by decide) rfl (ox_len hC (.tmp rfl) (by first | exact .row rfl | exact .vs | exact .sl rfl | exact .nils) Tryd.underlying25 rfl rfl rfl)) ?_
    refine WL_cons hC.fn (.yes rfl rfl (by decide) rfl (ox_cmp hC rfl (.tmp rfl) (.tmp rfl) (r := false) (by simp only [cmpI]; exact decide_eq_false (by omega)) rfl rfl)) ?_
    refine wp rfl hC (ox_pick hC (.tmp rfl) .cbool (.tmp rfl) (by first | exact pick_t | exact pick_f | rfl) rfl rfl) ?_
    refine wp rfl hC (oc_move hC (.tmp rfl) rfl rfl) ?_
    refine WL_cons hC.fn (.yes rfl rfl (by decide) rfl (oc_move hC (.tmp rfl) rfl rfl)) ?_
    refine WL_cons hC.fn (.yes rfl rfl (by decide) rfl (ox_cmp hC rfl (.tmp rfl) .cint (r := true) (by simp only [cmpI]; exact decide_eq_true (by omega)) rfl rfl)) ?_
    refine wp rfl hC (ox_pick hC (.tmp rfl) .cbool (.tmp rfl) (by first | exact pick_t | exact pick_f | rfl) rfl rfl) ?_
    refine WL_nil ?_
    refine W_cond rfl (by decide) (fun _ => ?_) (fun hc => by cases hc)
    refine wsr ?_
    refine wp rfl hC (oc_call hC .nil (.same (by first | exact inSL_I _ | simp)) (awake14_c) (glob_cons rfl rfl (by first | exact inSL_I _ | simp) glob_nil) (by first | exact inSL_I _ | simp) (by first | exact .inl rfl | exact .inr (by simp)) rfl rfl) ?_
    refine wp rfl hC (oc_assign hC (.tmp rfl) rfl rfl) ?_
    refine WL_nil ?_
    refine W_ret ?_
    exact fin0 (.cons (.tmp rfl) .nil) rfl trivial
  ·
    have hll := length_encL' hid hR
    have be := B8_encL hR bid bb
    obtain ⟨hx1, hx2, hx3⟩ := xor_ne (be.get at_.toNat) hy h4_
    have htu := enc_turned (i := at_.toNat) (y := (binI .xor .u8 ((encL k id v n b).getD at_.toNat 0) y)) bid bb hR (by omega) ⟨hx2, hx3⟩ hx1
    have hls : ((encL k id v n b).set at_.toNat (binI .xor .u8 ((encL k id v n b).getD at_.toNat 0) y)).length = (encL k id v n b).length := List.length_set
    have hle := length_encL (k := k) (id := id) (v := v) (n := n) (b := b)
    have bst : B8 ((encL k id v n b).set at_.toNat (binI .xor .u8 ((encL k id v n b).getD at_.toNat 0) y)) := B8_set be ⟨hx2, hx3⟩
    refine W_region ?_
    refine wp rfl hC (oc_load hC (.tmp rfl) (by first | exact .p rfl | exact .rp) shp_39 (by exact (unit_rall hid)) rfl rfl) ?_
    refine wp rfl hC (oc_callN hC (.cons (.tmp rfl) .nil) (.cons1 (.free (by first | exact inSL_I _ | simp)) (.same (by first | exact inSL_I _ | simp))) (encode_c k id v n b hid bid bb hR) (glob_cons rfl rfl (by first | exact inSL_I _ | simp) glob_nil) (by first | exact inSL_I _ | simp) rfl (by first | exact .inl rfl | exact .inr ⟨by simp, novsL_I _⟩ | exact .inr ⟨by simp, by simp⟩) rfl rfl) ?_
    refine wp rfl hC (oc_move hC (.tmp rfl) rfl rfl) ?_
    refine wp rfl hC (oc_extract hC (.tmp rfl) rfl rfl rfl) ?_
    refine wp rfl hC (oc_extract hC (.tmp rfl) rfl rfl rfl) ?_
    refine wp rfl hC (oc_assign hC (.tmp rfl) rfl rfl) ?_
    refine wp rfl hC (oc_assign hC (.tmp rfl) rfl rfl) ?_
    refine WL_nil ?_
    refine W_seq ?_
    refine wsr ?_
    refine wp rfl hC (oc_field hC (.tmp rfl) fld_39_4 (by decide) (by first | exact .p (Nat.zero_add _) | exact .p rfl | exact .rp (by decide)) rfl rfl) ?_
    refine wp rfl hC (oc_load hC (.tmp rfl) (by first | exact .p rfl | exact .rp) shp_25 (by exact (unit_rz hid)) rfl rfl) ?_
    refine wp rfl hC (ox_len hC (.tmp rfl) (by first | exact .row rfl | exact .vs | exact .sl rfl | exact .nils) Tryd.underlying25 rfl rfl rfl) ?_
    refine wp rfl hC (ox_cmp hC rfl (.tmp rfl) .cint (r := false) (by simp only [cmpI]; exact decide_eq_false (by omega)) rfl rfl) ?_
    refine wp rfl hC (oc_move hC (.tmp rfl) rfl rfl) ?_
    refine WL_cons hC.fn (.yes rfl rfl (by decide) rfl (oc_move hC (.tmp rfl) rfl rfl)) ?_
    refine WL_cons hC.fn (.yes rfl rfl (by decide) rfl (ox_cmp hC rfl (.tmp rfl) .cint (r := false) rfl rfl rfl)) ?_
    refine wp rfl hC (ox_pick hC (.tmp rfl) .cbool (.tmp rfl) (by first | exact pick_t | exact pick_f | rfl) rfl rfl) ?_
    refine wp rfl hC (oc_move hC (.tmp rfl) rfl rfl) ?_
    refine WL_cons hC.fn (.yes rfl rfl (by decide) rfl (oc_move hC (.tmp rfl) rfl rfl)) ?_
    refine WL_cons hC.fn (.yes rfl rfl (by decide) rfl (ox_cmp hC rfl (.tmp rfl) .cint (r := false) (by simp only [cmpI]; exact decide_eq_false (by omega)) rfl rfl)) ?_
    refine wp rfl hC (ox_pick hC (.tmp rfl) .cbool (.tmp rfl) (by first | exact pick_t | exact pick_f | rfl) rfl rfl) ?_
    refine wp rfl hC (oc_move hC (.tmp rfl) rfl rfl) ?_
    refine WL_cons hC.fn (.yes rfl rfl (by decide) rfl (oc_move hC (.tmp rfl) rfl rfl)) ?_
    refine WL_cons hC.fn (.yes rfl rfl (by decide) rfl (oc_move hC (.tmp rfl) rfl rfl)) ?_
    refine WL_cons hC.fn (.yes rfl rfl (by decide) rfl (ox_len hC (.tmp rfl) (by first | exact .row rfl | exact .vs | exact .sl rfl | exact .nils) Tryd.underlying25 rfl rfl rfl)) ?_
    refine WL_cons hC.fn (.yes rfl rfl (by decide) rfl (ox_cmp hC rfl (.tmp rfl) (.tmp rfl) (r := false) (by simp only [cmpI]; exact decide_eq_false (by omega)) rfl rfl)) ?_
    refine wp rfl hC (ox_pick hC (.tmp rfl) .cbool (.tmp rfl) (by first | exact pick_t | exact pick_f | rfl) rfl rfl) ?_
    refine wp rfl hC (oc_move hC (.tmp rfl) rfl rfl) ?_
    refine WL_cons hC.fn (.yes rfl rfl (by decide) rfl (oc_move hC (.tmp rfl) rfl rfl)) ?_
    refine WL_cons hC.fn (.yes rfl rfl (by decide) rfl (ox_cmp hC rfl (.tmp rfl) .cint (r := false) (by simp only [cmpI]; exact decide_eq_false h4_) rfl rfl)) ?_
    refine wp rfl hC (ox_pick hC (.tmp rfl) .cbool (.tmp rfl) (by first | exact pick_t | exact pick_f | rfl) rfl rfl) ?_
    refine WL_nil ?_
    refine W_cond rfl (by decide) (fun hc => by cases hc) (fun _ => ?_)
    refine W_skip ?_
    refine wsr ?_
    refine wp rfl hC (oc_move hC (.tmp rfl) rfl rfl) ?_
    refine wp rfl hC (oc_move hC (.tmp rfl) rfl rfl) ?_
    refine wp rfl hC (ox_indexS hC (j := at_.toNat) (.tmp rfl) (.tmp rfl) idx_25 (by omega) (by first | exact Nat.mul_one _ | rfl) (by first | exact .row rfl | exact .sl (Nat.zero_add _) | exact .sl rfl | exact .vs (by first | omega | (simp <;> fail) | (simp; omega))) (by first | omega | (simp <;> fail) | (simp; omega)) rfl rfl) ?_
    refine wp rfl hC (oc_load hC (.tmp rfl) (by first | exact .p rfl | exact .rp) shp_5 (by exact (unit_I (by first | omega | (simp <;> fail) | (simp; omega)))) rfl rfl) ?_
    refine wp rfl hC (oc_move hC (.tmp rfl) rfl rfl) ?_
    refine wp rfl hC (oc_bin hC rfl (.tmp rfl) (.tmp rfl) (r := (binI .xor .u8 ((encL k id v n b).getD at_.toNat 0) y)) rfl rfl rfl) ?_
    refine wp rfl hC (ox_indexS hC (j := at_.toNat) (.tmp rfl) (.tmp rfl) idx_25 (by omega) (by first | exact Nat.mul_one _ | rfl) (by first | exact .row rfl | exact .sl (Nat.zero_add _) | exact .sl rfl | exact .vs (by first | omega | (simp <;> fail) | (simp; omega))) (by first | omega | (simp <;> fail) | (simp; omega)) rfl rfl) ?_
    refine wp rfl hC (ox_store (bk' := .row 5 1 (encL k id v n b).length (I .u8 ((encL k id v n b).set at_.toNat (binI .xor .u8 ((encL k id v n b).getD at_.toNat 0) y)))) hC (.tmp rfl) (.tmp rfl) rfl shp_5 (by first | rfl | exact flat_agI) (by first | exact cells1 rfl | (rw [cells_ag, length_I]; omega) | rfl | (simp <;> fail) | (simp; omega)) (by first | exact Nat.le_refl _ | exact Nat.le_of_ble_eq_true rfl | decide | (simp <;> fail) | (simp; omega)) (put_rowI (by omega)) (by first | exact .here | exact .s1 rfl | exact .s2 rfl rfl | exact .s3 rfl rfl rfl | exact .s4 rfl rfl rfl rfl | exact .s5 rfl rfl rfl rfl rfl | exact .s6 rfl rfl rfl rfl rfl rfl | exact .s7 rfl rfl rfl rfl rfl rfl rfl | exact .s8 rfl rfl rfl rfl rfl rfl rfl rfl) rfl) ?_
    refine WL_nil ?_
    refine wsr ?_
    refine WL_weak (weak_frz (t := 7) (b := ((encL k id v n b).set at_.toNat (binI .xor .u8 ((encL k id v n b).getD at_.toNat 0) y))) rfl rfl (.here rfl) hls) ?_
    refine wp rfl hC (oc_move hC (.tmp rfl) rfl rfl) ?_
    refine wp rfl hC (oc_call hC (.cons (.tmp rfl) .nil) (.cons1 (by first | exact .free (by first | exact inSL_I _ | simp) | exact .row rfl rfl (by first | exact inSL_I _ | simp) | exact .nils | exact .sl1 rfl (by first | exact cut_I | rfl) (by first | exact inSL_I _ | simp)) (.same (by first | exact inSL_I _ | simp))) (decsum_c ((encL k id v n b).set at_.toNat (binI .xor .u8 ((encL k id v n b).getD at_.toNat 0) y)) (encL k id v n b).length (encB k id v n b).length hls bst (by omega) hle htu) (glob_cons rfl rfl (by first | exact inSL_I _ | simp) glob_nil) (by first | exact inSL_I _ | simp) (by first | exact .inl rfl | exact .inr (by simp)) rfl rfl) ?_
    refine wp rfl hC (oc_move hC (.tmp rfl) rfl rfl) ?_
    refine wp rfl hC (oc_extract hC (.tmp rfl) rfl rfl rfl) ?_
    refine wp rfl hC (oc_extract hC (.tmp rfl) rfl rfl rfl) ?_
    refine wp rfl hC (ox_alloc (cs' := recX 0 (List.replicate 16 0) 0 0 .nils) hC zero_39 (by unfold recX; rfl) rfl rfl) ?_
    refine wp rfl hC (ox_store (bk' := .blk 39 (recX 0 (List.replicate 16 0) 0 0 .nils)) hC (.tmp rfl) (.tmp rfl) rfl shp_39 (flat_recX rfl) (by rw [cells_ag, length_recX rfl]) (by show _ ≤ (recX _ _ _ _ _).length; rw [length_recX rfl]; decide) (put_rall rfl rfl) (by first | exact .here | exact .s1 rfl | exact .s2 rfl rfl | exact .s3 rfl rfl rfl | exact .s4 rfl rfl rfl rfl | exact .s5 rfl rfl rfl rfl rfl | exact .s6 rfl rfl rfl rfl rfl rfl | exact .s7 rfl rfl rfl rfl rfl rfl rfl | exact .s8 rfl rfl rfl rfl rfl rfl rfl rfl) rfl) ?_
    refine wp rfl hC (oc_assign hC (.tmp rfl) rfl rfl) ?_
    refine WL_nil ?_
    refine wsr ?_
    refine wp rfl hC (oc_move hC (.tmp rfl) rfl rfl) ?_
    refine wp rfl hC (ox_cmp hC rfl (.tmp rfl) .cint (r := true) rfl rfl rfl) ?_
    refine wp rfl hC (oc_move hC (.tmp rfl) rfl rfl) ?_
    refine WL_cons hC.fn (.yes rfl rfl (by decide) rfl (oc_load hC (.tmp rfl) (by first | exact .p rfl | exact .rp) shp_39 (by exact (unit_rall rfl)) rfl rfl)) ?_
    refine WL_cons hC.fn (.yes rfl rfl (by decide) rfl (ox_build (out' := recX 0 (List.replicate 16 0) 0 0 .nils) hC .nil zero_39 bld_39 rfl (by unfold recX; rfl) rfl rfl)) ?_
    refine WL_cons hC.fn (.yes rfl rfl (by decide) rfl (oc_call hC (.cons (.tmp rfl) (.cons (.tmp rfl) .nil)) (.cons1 (.free (by first | exact inSL_I _ | simp)) (.cons1 (.free (by first | exact inSL_I _ | simp)) (.same (by first | exact inSL_I _ | simp)))) (rsame0_c) glob_nil (by first | exact inSL_I _ | simp) (by first | exact .inl rfl | exact .inr (by simp)) rfl rfl)) ?_
    refine wp rfl hC (ox_pick hC (.tmp rfl) (.tmp rfl) .cbool (by first | exact pick_t | exact pick_f | rfl) rfl rfl) ?_
    refine wp rfl hC (oc_move hC (.tmp rfl) rfl rfl) ?_
    refine WL_cons hC.fn (.yes rfl rfl (by decide) rfl (oc_call hC .nil (.same (by first | exact inSL_I _ | simp)) (awake14_c) (glob_cons rfl rfl (by first | exact inSL_I _ | simp) glob_nil) (by first | exact inSL_I _ | simp) (by first | exact .inl rfl | exact .inr (by simp)) rfl rfl)) ?_
    refine wp rfl hC (ox_pick hC (.tmp rfl) (.tmp rfl) .cbool (by first | exact pick_t | exact pick_f | rfl) rfl rfl) ?_
    refine wp rfl hC (oc_assign hC (.tmp rfl) rfl rfl) ?_
    refine WL_nil ?_
    refine W_ret ?_
    exact fin0 (.cons (.tmp rfl) .nil) rfl trivial
end Go.Proofs.YtlcgojhopdikbaaDoor
