/- Own work, printed by a program of this claim: walks through functions of the program. -/
import Derived.Test.YtfngpppghlbanaaDoorW9
import Derived.Test.YtfngpppghlbanaaDoorProg
import Derived.KernelRfl
set_option linter.unusedSimpArgs false
set_option linter.unusedVariables false
namespace Go.Proofs.YtfngpppghlbanaaDoor
open Go.Sk Go.RowKit
attribute [local simp] AV.inSL AV.inS inSL_I Blk.inS Blk.cs AV.novs AV.novsL novsL_I AV.ren AV.cells AV.one lk tuAV


set_option maxRecDepth 20000 in
set_option maxHeartbeats 4000000 in
theorem law_VaultVolumes (se : List Int) (bse : B8 se) (k : Int) (id : List Int) (v n : Int) (b : List Int) (hid : id.length = 16) (bid : B8 id) (bb : B8 b) (vo : Int) : FnC Tryd.prog 7 [(1000000, .rp (I .u32 tbl))] [.vs se.length (I .u8 se), .ag (recX k id v n (bodyV b)), .i .i64 vo] [] [] (.b true) := by
  refine FnC.introR (N0 := 0) (T := 89) (E := [(0, .vs se.length (I .u8 se)), (1, .ag (recX k id v n (bodyV b))), (2, .i .i64 vo), (1000000, .rp (I .u32 tbl))]) Tryd.func7 rfl (by decide) mix rfl rfl rfl (by simp) rfl ⟨t_b, t_b, t_b, trivial⟩ (by simp) t_10 (fun F n0 X w ρ hC hro => ?_)
  refine wsr ?_
  refine wp rfl hC t_3s ?_
  refine wp rfl hC t_1d ?_
  refine WL_nil ?_
  refine W_seq ?_
  refine W_seq ?_
  rcases (show 60 < se.length ∨ (se.length ≤ 60 ∧ 500 < b.length) ∨ (se.length ≤ 60 ∧ b.length ≤ 500 ∧ (RightR k v n b.length ∧ k ≠ 1) ∧ (RightR k vo n b.length ∧ k ≠ 1) ∧ vo = v) ∨ (se.length ≤ 60 ∧ b.length ≤ 500 ∧ (RightR k v n b.length ∧ k ≠ 1) ∧ (RightR k vo n b.length ∧ k ≠ 1) ∧ vo ≠ v) ∨ (se.length ≤ 60 ∧ b.length ≤ 500 ∧ (RightR k v n b.length ∧ k ≠ 1) ∧ ¬ (RightR k vo n b.length ∧ k ≠ 1)) ∨ (se.length ≤ 60 ∧ b.length ≤ 500 ∧ ¬ (RightR k v n b.length ∧ k ≠ 1) ∧ (RightR k vo n b.length ∧ k ≠ 1)) ∨ (se.length ≤ 60 ∧ b.length ≤ 500 ∧ ¬ (RightR k v n b.length ∧ k ≠ 1) ∧ ¬ (RightR k vo n b.length ∧ k ≠ 1)) from by
    rcases Classical.em (RightR k v n b.length ∧ k ≠ 1) with c | c <;> rcases Classical.em (RightR k vo n b.length ∧ k ≠ 1) with c2 | c2 <;> rcases Classical.em (vo = v) with c3 | c3 <;> rcases Nat.lt_or_ge 60 se.length with a | a <;> rcases Nat.lt_or_ge 500 b.length with a2 | a2
    all_goals first | exact .inl a | exact .inr (.inl ⟨a, a2⟩) | exact .inr (.inr (.inl ⟨a, a2, c, c2, c3⟩)) | exact .inr (.inr (.inr (.inl ⟨a, a2, c, c2, c3⟩))) | exact .inr (.inr (.inr (.inr (.inl ⟨a, a2, c, c2⟩)))) | exact .inr (.inr (.inr (.inr (.inr (.inl ⟨a, a2, c, c2⟩))))) | exact .inr (.inr (.inr (.inr (.inr (.inr (⟨a, a2, c, c2⟩))))))) with h_ | h_ | ⟨h_, h2_, hM, hN, rfl⟩ | ⟨h_, h2_, hM, hN, hw⟩ | ⟨h_, h2_, hM, hN⟩ | ⟨h_, h2_, hM, hN⟩ | ⟨h_, h2_, hM, hN⟩
  ·
    refine W_region ?_
    refine wp rfl hC t_1 ?_
    refine wp rfl hC t_32 ?_
    refine wp rfl hC t_3b ?_
    refine wp rfl hC t_1 ?_
    refine WL_cons hC.fn (.no (s1 := ⟨_, (17, .tu []) :: _, _⟩) rfl rfl (by decide) rfl (by decide) (dst_ok rfl rfl) (fun t => setE_cons _ _ _ _) rfl rfl) ?_
    refine WL_cons hC.fn (.no (s1 := ⟨_, (18, .tu []) :: _, _⟩) rfl rfl (by decide) rfl (by decide) (dst_ok rfl rfl) (fun t => setE_cons _ _ _ _) rfl rfl) ?_
    refine WL_cons hC.fn (.no (s1 := ⟨_, (19, .tu []) :: _, _⟩) rfl rfl (by decide) rfl (by decide) (dst_ok rfl rfl) (fun t => setE_cons _ _ _ _) rfl rfl) ?_
    refine WL_cons hC.fn (.no (s1 := ⟨_, (20, .tu []) :: _, _⟩) rfl rfl (by decide) rfl (by decide) (dst_ok rfl rfl) (fun t => setE_cons _ _ _ _) rfl rfl) ?_
    refine wp rfl hC t_3f ?_
    refine WL_nil ?_
    refine W_cond rfl (by decide) (fun _ => ?_) (fun hc => by cases hc)
    refine wsr ?_
    refine wp rfl hC t_3l ?_
    refine wp rfl hC t_4 ?_
    refine WL_nil ?_
    refine W_ret ?_
    exact fin0 (.cons (.tmp rfl) .nil) rfl trivial
  ·
    refine W_region ?_
    refine wp rfl hC t_1 ?_
    refine wp rfl hC t_32 ?_
    refine wp rfl hC t_37 ?_
    refine wp rfl hC t_1 ?_
    refine WL_cons hC.fn t_6f ?_
    refine WL_cons hC.fn t_6h ?_
    refine WL_cons hC.fn t_6j ?_
    refine WL_cons hC.fn t_6i ?_
    refine wp rfl hC t_3f ?_
    refine WL_nil ?_
    refine W_cond rfl (by decide) (fun _ => ?_) (fun hc => by cases hc)
    refine wsr ?_
    refine wp rfl hC t_3l ?_
    refine wp rfl hC t_4 ?_
    refine WL_nil ?_
    refine W_ret ?_
    exact fin0 (.cons (.tmp rfl) .nil) rfl trivial
  ·
    have hsl := length_vseal se id b k vo n
    have hsl2 := length_vseal se id b k vo n
    have ht : (vseal se k id vo n b).take b.length = (xorM (vkey se id) 1 (vnon k n) b) := by unfold vseal; exact seal_take _ _ _ _
    have ht2 : (vseal se k id vo n b).take b.length = (xorM (vkey se id) 1 (vnon k n) b) := by unfold vseal; exact seal_take _ _ _ _
    have hlx : (xorM (vkey se id) 1 (vnon k n) b).length = b.length := length_xor
    refine W_region ?_
    refine wp rfl hC t_1 ?_
    refine wp rfl hC t_32 ?_
    refine wp rfl hC t_37 ?_
    refine wp rfl hC t_1 ?_
    refine WL_cons hC.fn t_6f ?_
    refine WL_cons hC.fn t_6h ?_
    refine WL_cons hC.fn t_6j ?_
    refine WL_cons hC.fn t_6k ?_
    refine wp rfl hC t_3f ?_
    refine WL_nil ?_
    refine W_cond rfl (by decide) (fun hc => by cases hc) (fun _ => ?_)
    refine W_skip ?_
    refine wsr ?_
    refine wp rfl hC t_3e ?_
    refine wp rfl hC t_3h ?_
    refine wp rfl hC (ox_store (bk' := .blk 33 (recX k id vo n (bodyV b))) hC (.tmp rfl) (.tmp rfl) rfl shp_33 (flat_recX rfl) t_1j t_1a (put_rall rfl hid) t_f rfl) ?_
    refine WL_nil ?_
    refine wsr ?_
    refine wp rfl hC t_1 ?_
    refine wp rfl hC t_3k ?_
    refine wp rfl hC t_54 ?_
    refine WL_nil ?_
    refine wsr ?_
    refine wp rfl hC t_1 ?_
    refine wp rfl hC t_3e ?_
    refine wp rfl hC (oc_call hC (.cons (.tmp rfl) (.cons (.tmp rfl) .nil)) (.cons1 t_31 (.cons1 (.free t_0) (.same t_0))) (vclose_c se bse (by omega) k id vo n b hid bid bb hM (by omega)) (glob_cons rfl rfl t_0 glob_nil) t_0 t_8 rfl rfl) ?_
    refine wp rfl hC t_1 ?_
    refine wp rfl hC t_l ?_
    refine wp rfl hC t_l ?_
    refine wp rfl hC t_3h ?_
    refine wp rfl hC t_5f ?_
    refine wp rfl hC t_4 ?_
    refine WL_nil ?_
    refine wsr ?_
    refine wp rfl hC t_1 ?_
    refine wp rfl hC t_3e ?_
    refine wp rfl hC t_7y ?_
    refine wp rfl hC t_1 ?_
    refine wp rfl hC t_l ?_
    refine wp rfl hC t_l ?_
    refine wp rfl hC t_3h ?_
    refine wp rfl hC t_5f ?_
    refine wp rfl hC t_4 ?_
    refine WL_nil ?_
    refine W_seq ?_
    refine wsr ?_
    refine wp rfl hC t_1 ?_
    refine wp rfl hC t_28 ?_
    refine wp rfl hC t_1 ?_
    refine WL_cons hC.fn t_3d ?_
    refine WL_cons hC.fn (.yes rfl rfl (by decide) rfl t_28) ?_
    refine wp rfl hC t_3f ?_
    refine WL_nil ?_
    refine W_cond rfl (by decide) (fun hc => by cases hc) (fun _ => ?_)
    refine W_skip ?_
    refine wsr ?_
    refine wp rfl hC t_38 ?_
    refine wp rfl hC t_3a ?_
    refine wp rfl hC t_32 ?_
    refine wp rfl hC t_4 ?_
    refine WL_nil ?_
    refine W_seq ?_
    refine W_drawD hC ?_
    refine WD_cons (.plain rfl t_38) ?_
    refine WD_cons (.plain rfl t_3a) ?_
    refine WD_cons (.plain rfl t_32) ?_
    refine WD_cons (.plain rfl t_1) ?_
    refine WD_cons (.plain rfl t_2b) ?_
    refine WD_cons (.plain rfl t_3u) ?_
    refine WD_cons (.plain rfl t_1) ?_
    refine WD_cons t_6f ?_
    refine WD_cons t_6h ?_
    refine WD_cons t_6j ?_
    refine WD_cons t_3d ?_
    refine WD_cons (.yes rfl rfl (by decide) rfl t_2b) ?_
    refine WD_cons (.yes rfl rfl (by decide) rfl t_3u) ?_
    refine WD_cons (.plain rfl t_2z) ?_
    refine WD_cons (.plain rfl t_1) ?_
    refine WD_cons t_6f ?_
    refine WD_cons t_6h ?_
    refine WD_cons t_3d ?_
    refine WD_cons (.yes rfl rfl (by decide) rfl t_7p) ?_
    refine WD_cons (.yes rfl rfl (by decide) rfl t_6b) ?_
    refine WD_cons t_6f ?_
    refine WD_cons t_6h ?_
    refine WD_cons t_3d ?_
    refine WD_cons (.yes rfl rfl (by decide) rfl t_7p) ?_
    refine WD_cons (.yes rfl rfl (by decide) rfl t_6c) ?_
    refine WD_cons (.yes rfl rfl (by decide) rfl t_2m) ?_
    refine WD_cons (.plain rfl t_2z) ?_
    refine WD_cons (.plain rfl t_1) ?_
    refine WD_cons t_3d ?_
    refine WD_cons t_6p ?_
    refine WD_cons t_6n ?_
    refine WD_cons (.yes rfl rfl (by decide) rfl (ox_cmp hC rfl (.tmp rfl) (.tmp rfl) (r := false) (by simp [cmpI]) rfl rfl)) ?_
    refine WD_cons t_3d ?_
    refine WD_cons t_6y ?_
    refine WD_cons t_6y ?_
    refine WD_cons (.yes rfl rfl (by decide) rfl (oc_call hC (.cons (.tmp rfl) (.cons (.tmp rfl) .nil)) (.cons1 (.free t_0) (.cons1 (.free t_0) (.same t_0))) (rsame_c k k id id vo vo n n (vseal se k id vo n b) (vseal se k id vo n b) hid hid bid bid (by omega)) glob_nil t_0 t_8 rfl rfl)) ?_
    rw [decide_eq_true (show k = k ∧ id = id ∧ vo = vo ∧ n = n ∧ (vseal se k id vo n b) = (vseal se k id vo n b) from ⟨rfl, rfl, rfl, rfl, rfl⟩)]
    refine WD_cons (.yes rfl rfl (by decide) rfl t_3f) ?_
    refine WD_cons (.plain rfl t_2z) ?_
    refine WD_cons (.plain rfl t_1) ?_
    refine WD_cons t_6u ?_
    refine WD_cons (.plain rfl t_2z) ?_
    refine WD_cons (.plain rfl t_4) ?_
    refine WD_nil t_x ?_
    refine W_ret ?_
    exact fin0 (.cons (.tmp rfl) .nil) rfl trivial
  ·
    have hsl := length_vseal se id b k v n
    have hsl2 := length_vseal se id b k vo n
    have ht : (vseal se k id v n b).take b.length = (xorM (vkey se id) 1 (vnon k n) b) := by unfold vseal; exact seal_take _ _ _ _
    have ht2 : (vseal se k id vo n b).take b.length = (xorM (vkey se id) 1 (vnon k n) b) := by unfold vseal; exact seal_take _ _ _ _
    have hlx : (xorM (vkey se id) 1 (vnon k n) b).length = b.length := length_xor
    refine W_region ?_
    refine wp rfl hC t_1 ?_
    refine wp rfl hC t_32 ?_
    refine wp rfl hC t_37 ?_
    refine wp rfl hC t_1 ?_
    refine WL_cons hC.fn t_6f ?_
    refine WL_cons hC.fn t_6h ?_
    refine WL_cons hC.fn t_6j ?_
    refine WL_cons hC.fn t_6k ?_
    refine wp rfl hC t_3f ?_
    refine WL_nil ?_
    refine W_cond rfl (by decide) (fun hc => by cases hc) (fun _ => ?_)
    refine W_skip ?_
    refine wsr ?_
    refine wp rfl hC t_3e ?_
    refine wp rfl hC t_3h ?_
    refine wp rfl hC t_56 ?_
    refine WL_nil ?_
    refine wsr ?_
    refine wp rfl hC t_1 ?_
    refine wp rfl hC t_3k ?_
    refine wp rfl hC t_54 ?_
    refine WL_nil ?_
    refine wsr ?_
    refine wp rfl hC t_1 ?_
    refine wp rfl hC t_3e ?_
    refine wp rfl hC t_7d ?_
    refine wp rfl hC t_1 ?_
    refine wp rfl hC t_l ?_
    refine wp rfl hC t_l ?_
    refine wp rfl hC t_3h ?_
    refine wp rfl hC t_4t ?_
    refine wp rfl hC t_4 ?_
    refine WL_nil ?_
    refine wsr ?_
    refine wp rfl hC t_1 ?_
    refine wp rfl hC t_3e ?_
    refine wp rfl hC t_7y ?_
    refine wp rfl hC t_1 ?_
    refine wp rfl hC t_l ?_
    refine wp rfl hC t_l ?_
    refine wp rfl hC t_3h ?_
    refine wp rfl hC t_5f ?_
    refine wp rfl hC t_4 ?_
    refine WL_nil ?_
    refine W_seq ?_
    refine wsr ?_
    refine wp rfl hC t_1 ?_
    refine wp rfl hC t_28 ?_
    refine wp rfl hC t_1 ?_
    refine WL_cons hC.fn t_3d ?_
    refine WL_cons hC.fn (.yes rfl rfl (by decide) rfl t_28) ?_
    refine wp rfl hC t_3f ?_
    refine WL_nil ?_
    refine W_cond rfl (by decide) (fun hc => by cases hc) (fun _ => ?_)
    refine W_skip ?_
    refine wsr ?_
    refine wp rfl hC t_38 ?_
    refine wp rfl hC t_3a ?_
    refine wp rfl hC t_32 ?_
    refine wp rfl hC t_4 ?_
    refine WL_nil ?_
    refine W_seq ?_
    refine W_drawD hC ?_
    refine WD_cons (.plain rfl t_38) ?_
    refine WD_cons (.plain rfl t_3a) ?_
    refine WD_cons (.plain rfl t_32) ?_
    refine WD_cons (.plain rfl t_1) ?_
    refine WD_cons (.plain rfl t_2b) ?_
    refine WD_cons (.plain rfl t_3u) ?_
    refine WD_cons (.plain rfl t_1) ?_
    refine WD_cons t_6f ?_
    refine WD_cons t_6h ?_
    refine WD_cons t_6j ?_
    refine WD_cons t_3d ?_
    refine WD_cons (.yes rfl rfl (by decide) rfl t_2b) ?_
    refine WD_cons (.yes rfl rfl (by decide) rfl t_3u) ?_
    refine WD_cons (.plain rfl t_2z) ?_
    refine WD_cons (.plain rfl t_1) ?_
    refine WD_cons t_6f ?_
    refine WD_cons t_6h ?_
    refine WD_cons t_3d ?_
    refine WD_cons (.yes rfl rfl (by decide) rfl t_7p) ?_
    refine WD_cons (.yes rfl rfl (by decide) rfl t_6b) ?_
    refine WD_cons t_6f ?_
    refine WD_cons t_6h ?_
    refine WD_cons t_3d ?_
    refine WD_cons (.yes rfl rfl (by decide) rfl t_7p) ?_
    refine WD_cons (.yes rfl rfl (by decide) rfl t_6c) ?_
    refine WD_cons (.yes rfl rfl (by decide) rfl t_2m) ?_
    refine WD_cons (.plain rfl t_2z) ?_
    refine WD_cons (.plain rfl t_1) ?_
    refine WD_cons t_3d ?_
    refine WD_cons t_6p ?_
    refine WD_cons t_6n ?_
    refine WD_cons (.yes rfl rfl (by decide) rfl (ox_cmp hC rfl (.tmp rfl) (.tmp rfl) (r := true) (by simp only [cmpI]; exact decide_eq_true hw) rfl rfl)) ?_
    refine WD_cons t_3d ?_
    refine WD_cons (.no (s1 := ⟨_, (81, .tu []) :: _, _⟩) rfl rfl (by decide) rfl (by decide) (dst_ok rfl rfl) (fun t => setE_cons _ _ _ _) rfl rfl) ?_
    refine WD_cons (.no (s1 := ⟨_, (82, .tu []) :: _, _⟩) rfl rfl (by decide) rfl (by decide) (dst_ok rfl rfl) (fun t => setE_cons _ _ _ _) rfl rfl) ?_
    refine WD_cons (.no (s1 := ⟨_, (83, .tu []) :: _, _⟩) rfl rfl (by decide) rfl (by decide) (dst_ok rfl rfl) (fun t => setE_cons _ _ _ _) rfl rfl) ?_
    refine WD_cons (.yes rfl rfl (by decide) rfl t_3f) ?_
    refine WD_cons (.plain rfl t_2z) ?_
    refine WD_cons (.plain rfl t_1) ?_
    refine WD_cons t_6u ?_
    refine WD_cons (.plain rfl t_2z) ?_
    refine WD_cons (.plain rfl t_4) ?_
    refine WD_nil t_x ?_
    refine W_ret ?_
    exact fin0 (.cons (.tmp rfl) .nil) rfl trivial
  ·
    refine W_region ?_
    refine wp rfl hC t_1 ?_
    refine wp rfl hC t_32 ?_
    refine wp rfl hC t_37 ?_
    refine wp rfl hC t_1 ?_
    refine WL_cons hC.fn t_6f ?_
    refine WL_cons hC.fn t_6h ?_
    refine WL_cons hC.fn t_6j ?_
    refine WL_cons hC.fn t_6k ?_
    refine wp rfl hC t_3f ?_
    refine WL_nil ?_
    refine W_cond rfl (by decide) (fun hc => by cases hc) (fun _ => ?_)
    refine W_skip ?_
    refine wsr ?_
    refine wp rfl hC t_3e ?_
    refine wp rfl hC t_3h ?_
    refine wp rfl hC t_56 ?_
    refine WL_nil ?_
    refine wsr ?_
    refine wp rfl hC t_1 ?_
    refine wp rfl hC t_3k ?_
    refine wp rfl hC t_54 ?_
    refine WL_nil ?_
    refine wsr ?_
    refine wp rfl hC t_1 ?_
    refine wp rfl hC t_3e ?_
    refine wp rfl hC t_7d ?_
    refine wp rfl hC t_1 ?_
    refine wp rfl hC t_l ?_
    refine wp rfl hC t_l ?_
    refine wp rfl hC t_3h ?_
    refine wp rfl hC t_4t ?_
    refine wp rfl hC t_4 ?_
    refine WL_nil ?_
    refine wsr ?_
    refine wp rfl hC t_1 ?_
    refine wp rfl hC t_3e ?_
    refine wp rfl hC t_86 ?_
    refine wp rfl hC t_1 ?_
    refine wp rfl hC t_l ?_
    refine wp rfl hC t_l ?_
    refine wp rfl hC t_3h ?_
    refine wp rfl hC t_44 ?_
    refine wp rfl hC t_4 ?_
    refine WL_nil ?_
    refine W_seq ?_
    refine wsr ?_
    refine wp rfl hC t_1 ?_
    refine wp rfl hC t_28 ?_
    refine wp rfl hC t_1 ?_
    refine WL_cons hC.fn t_3d ?_
    refine WL_cons hC.fn t_4f ?_
    refine wp rfl hC t_3f ?_
    refine WL_nil ?_
    refine W_cond rfl (by decide) (fun _ => ?_) (fun hc => by cases hc)
    refine wsr ?_
    refine wp rfl hC t_3l ?_
    refine wp rfl hC t_4 ?_
    refine WL_nil ?_
    refine W_ret ?_
    exact fin0 (.cons (.tmp rfl) .nil) rfl trivial
  ·
    refine W_region ?_
    refine wp rfl hC t_1 ?_
    refine wp rfl hC t_32 ?_
    refine wp rfl hC t_37 ?_
    refine wp rfl hC t_1 ?_
    refine WL_cons hC.fn t_6f ?_
    refine WL_cons hC.fn t_6h ?_
    refine WL_cons hC.fn t_6j ?_
    refine WL_cons hC.fn t_6k ?_
    refine wp rfl hC t_3f ?_
    refine WL_nil ?_
    refine W_cond rfl (by decide) (fun hc => by cases hc) (fun _ => ?_)
    refine W_skip ?_
    refine wsr ?_
    refine wp rfl hC t_3e ?_
    refine wp rfl hC t_3h ?_
    refine wp rfl hC t_56 ?_
    refine WL_nil ?_
    refine wsr ?_
    refine wp rfl hC t_1 ?_
    refine wp rfl hC t_3k ?_
    refine wp rfl hC t_54 ?_
    refine WL_nil ?_
    refine wsr ?_
    refine wp rfl hC t_1 ?_
    refine wp rfl hC t_3e ?_
    refine wp rfl hC t_76 ?_
    refine wp rfl hC t_1 ?_
    refine wp rfl hC t_l ?_
    refine wp rfl hC t_l ?_
    refine wp rfl hC t_3h ?_
    refine wp rfl hC t_44 ?_
    refine wp rfl hC t_4 ?_
    refine WL_nil ?_
    refine wsr ?_
    refine wp rfl hC t_1 ?_
    refine wp rfl hC t_3e ?_
    refine wp rfl hC t_7y ?_
    refine wp rfl hC t_1 ?_
    refine wp rfl hC t_l ?_
    refine wp rfl hC t_l ?_
    refine wp rfl hC t_3h ?_
    refine wp rfl hC t_5f ?_
    refine wp rfl hC t_4 ?_
    refine WL_nil ?_
    refine W_seq ?_
    refine wsr ?_
    refine wp rfl hC t_1 ?_
    refine wp rfl hC t_1q ?_
    refine wp rfl hC t_1 ?_
    refine WL_cons hC.fn (.no (s1 := ⟨_, (41, .tu []) :: _, _⟩) rfl rfl (by decide) rfl (by decide) (dst_ok rfl rfl) (fun t => setE_cons _ _ _ _) rfl rfl) ?_
    refine WL_cons hC.fn (.no (s1 := ⟨_, (42, .tu []) :: _, _⟩) rfl rfl (by decide) rfl (by decide) (dst_ok rfl rfl) (fun t => setE_cons _ _ _ _) rfl rfl) ?_
    refine wp rfl hC t_3f ?_
    refine WL_nil ?_
    refine W_cond rfl (by decide) (fun _ => ?_) (fun hc => by cases hc)
    refine wsr ?_
    refine wp rfl hC t_3l ?_
    refine wp rfl hC t_4 ?_
    refine WL_nil ?_
    refine W_ret ?_
    exact fin0 (.cons (.tmp rfl) .nil) rfl trivial
  ·
    refine W_region ?_
    refine wp rfl hC t_1 ?_
    refine wp rfl hC t_32 ?_
    refine wp rfl hC t_37 ?_
    refine wp rfl hC t_1 ?_
    refine WL_cons hC.fn t_6f ?_
    refine WL_cons hC.fn t_6h ?_
    refine WL_cons hC.fn t_6j ?_
    refine WL_cons hC.fn t_6k ?_
    refine wp rfl hC t_3f ?_
    refine WL_nil ?_
    refine W_cond rfl (by decide) (fun hc => by cases hc) (fun _ => ?_)
    refine W_skip ?_
    refine wsr ?_
    refine wp rfl hC t_3e ?_
    refine wp rfl hC t_3h ?_
    refine wp rfl hC t_56 ?_
    refine WL_nil ?_
    refine wsr ?_
    refine wp rfl hC t_1 ?_
    refine wp rfl hC t_3k ?_
    refine wp rfl hC t_54 ?_
    refine WL_nil ?_
    refine wsr ?_
    refine wp rfl hC t_1 ?_
    refine wp rfl hC t_3e ?_
    refine wp rfl hC t_76 ?_
    refine wp rfl hC t_1 ?_
    refine wp rfl hC t_l ?_
    refine wp rfl hC t_l ?_
    refine wp rfl hC t_3h ?_
    refine wp rfl hC t_44 ?_
    refine wp rfl hC t_4 ?_
    refine WL_nil ?_
    refine wsr ?_
    refine wp rfl hC t_1 ?_
    refine wp rfl hC t_3e ?_
    refine wp rfl hC t_86 ?_
    refine wp rfl hC t_1 ?_
    refine wp rfl hC t_l ?_
    refine wp rfl hC t_l ?_
    refine wp rfl hC t_3h ?_
    refine wp rfl hC t_44 ?_
    refine wp rfl hC t_4 ?_
    refine WL_nil ?_
    refine W_seq ?_
    refine wsr ?_
    refine wp rfl hC t_1 ?_
    refine wp rfl hC t_1q ?_
    refine wp rfl hC t_1 ?_
    refine WL_cons hC.fn (.no (s1 := ⟨_, (41, .tu []) :: _, _⟩) rfl rfl (by decide) rfl (by decide) (dst_ok rfl rfl) (fun t => setE_cons _ _ _ _) rfl rfl) ?_
    refine WL_cons hC.fn (.no (s1 := ⟨_, (42, .tu []) :: _, _⟩) rfl rfl (by decide) rfl (by decide) (dst_ok rfl rfl) (fun t => setE_cons _ _ _ _) rfl rfl) ?_
    refine wp rfl hC t_3f ?_
    refine WL_nil ?_
    refine W_cond rfl (by decide) (fun _ => ?_) (fun hc => by cases hc)
    refine wsr ?_
    refine wp rfl hC t_3l ?_
    refine wp rfl hC t_4 ?_
    refine WL_nil ?_
    refine W_ret ?_
    exact fin0 (.cons (.tmp rfl) .nil) rfl trivial
end Go.Proofs.YtfngpppghlbanaaDoor
