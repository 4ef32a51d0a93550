/- Own work, printed by a program of this claim: walks through functions of the program. -/
import Derived.Test.YtfngpppghlbanaaDoorW9
import Derived.Test.YtfngpppghlbanaaDoorProg
import Derived.KernelRfl
set_option linter.unusedSimpArgs false
set_option linter.unusedVariables false
namespace Go.Proofs.YtfngpppghlbanaaDoor
open Go.Sk Go.RowKit
attribute [local simp] AV.inSL AV.inS inSL_I Blk.inS Blk.cs AV.novs AV.novsL novsL_I AV.ren AV.cells AV.one lk tuAV


set_option maxRecDepth 20000 in
set_option maxHeartbeats 4000000 in
theorem law_VaultLong (se : List Int) (bse : B8 se) (k : Int) (id : List Int) (v n : Int) (b : List Int) (hid : id.length = 16) (bid : B8 id) (bb : B8 b) : FnC Tryd.prog 6 [(1000000, .rp (I .u32 tbl))] [.vs se.length (I .u8 se), .ag (recX k id v n (bodyV b))] [] [] (.b true) := by
  refine FnC.introR (N0 := 0) (T := 65) (E := [(0, .vs se.length (I .u8 se)), (1, .ag (recX k id v n (bodyV b))), (1000000, .rp (I .u32 tbl))]) Tryd.func6 rfl (by decide) mix rfl rfl rfl (by simp) rfl ⟨t_b, t_b, trivial⟩ (by simp) t_10 (fun F n0 X w ρ hC hro => ?_)
  refine wsr ?_
  refine wp rfl hC t_3s ?_
  refine wp rfl hC t_1d ?_
  refine WL_nil ?_
  refine W_seq ?_
  refine W_seq ?_
  rcases (show (60 < se.length) ∨ (se.length ≤ 60 ∧ 500 < b.length) ∨ (se.length ≤ 60 ∧ b.length ≤ 500 ∧ ¬ (RightR k v n b.length ∧ k ≠ 1)) ∨ (se.length ≤ 60 ∧ b.length ≤ 500 ∧ (RightR k v n b.length ∧ k ≠ 1)) from by
    rcases Classical.em (RightR k v n b.length ∧ k ≠ 1) with c | c <;> rcases Nat.lt_or_ge 60 se.length with a | a <;> rcases Nat.lt_or_ge 500 b.length with a2 | a2
    all_goals first | exact .inl a | exact .inr (.inl ⟨a, a2⟩) | exact .inr (.inr (.inl ⟨a, a2, c⟩)) | exact .inr (.inr (.inr ⟨a, a2, c⟩))) with h_ | h_ | ⟨h_, h2_, hM⟩ | ⟨h_, h2_, hM⟩
  ·
    refine W_region ?_
    refine wp rfl hC t_1 ?_
    refine wp rfl hC t_32 ?_
    refine wp rfl hC t_3b ?_
    refine wp rfl hC t_1 ?_
    refine WL_cons hC.fn (.no (s1 := ⟨_, (13, .tu []) :: _, _⟩) rfl rfl (by decide) rfl (by decide) (dst_ok rfl rfl) (fun t => setE_cons _ _ _ _) rfl rfl) ?_
    refine WL_cons hC.fn (.no (s1 := ⟨_, (14, .tu []) :: _, _⟩) rfl rfl (by decide) rfl (by decide) (dst_ok rfl rfl) (fun t => setE_cons _ _ _ _) rfl rfl) ?_
    refine WL_cons hC.fn (.no (s1 := ⟨_, (15, .tu []) :: _, _⟩) rfl rfl (by decide) rfl (by decide) (dst_ok rfl rfl) (fun t => setE_cons _ _ _ _) rfl rfl) ?_
    refine WL_cons hC.fn (.no (s1 := ⟨_, (16, .tu []) :: _, _⟩) rfl rfl (by decide) rfl (by decide) (dst_ok rfl rfl) (fun t => setE_cons _ _ _ _) rfl rfl) ?_
    refine wp rfl hC t_3f ?_
    refine WL_nil ?_
    refine W_cond rfl (by decide) (fun _ => ?_) (fun hc => by cases hc)
    refine wsr ?_
    refine wp rfl hC t_3l ?_
    refine wp rfl hC t_4 ?_
    refine WL_nil ?_
    refine W_ret ?_
    exact fin0 (.cons (.tmp rfl) .nil) rfl trivial
  ·
    refine W_region ?_
    refine wp rfl hC t_1 ?_
    refine wp rfl hC t_32 ?_
    refine wp rfl hC t_37 ?_
    refine wp rfl hC t_1 ?_
    refine WL_cons hC.fn t_6f ?_
    refine WL_cons hC.fn t_6h ?_
    refine WL_cons hC.fn t_6j ?_
    refine WL_cons hC.fn t_6i ?_
    refine wp rfl hC t_3f ?_
    refine WL_nil ?_
    refine W_cond rfl (by decide) (fun _ => ?_) (fun hc => by cases hc)
    refine wsr ?_
    refine wp rfl hC t_3l ?_
    refine wp rfl hC t_4 ?_
    refine WL_nil ?_
    refine W_ret ?_
    exact fin0 (.cons (.tmp rfl) .nil) rfl trivial
  ·
    refine W_region ?_
    refine wp rfl hC t_1 ?_
    refine wp rfl hC t_32 ?_
    refine wp rfl hC t_37 ?_
    refine wp rfl hC t_1 ?_
    refine WL_cons hC.fn t_6f ?_
    refine WL_cons hC.fn t_6h ?_
    refine WL_cons hC.fn t_6j ?_
    refine WL_cons hC.fn t_6k ?_
    refine wp rfl hC t_3f ?_
    refine WL_nil ?_
    refine W_cond rfl (by decide) (fun hc => by cases hc) (fun _ => ?_)
    refine W_skip ?_
    refine wsr ?_
    refine wp rfl hC t_1 ?_
    refine wp rfl hC t_3e ?_
    refine wp rfl hC t_76 ?_
    refine wp rfl hC t_1 ?_
    refine wp rfl hC t_l ?_
    refine wp rfl hC t_l ?_
    refine wp rfl hC t_3h ?_
    refine wp rfl hC t_44 ?_
    refine wp rfl hC t_4 ?_
    refine WL_nil ?_
    refine W_seq ?_
    refine wsr ?_
    refine wp rfl hC t_1 ?_
    refine wp rfl hC t_1q ?_
    refine WL_nil ?_
    refine W_cond rfl (by decide) (fun _ => ?_) (fun hc => by cases hc)
    refine wsr ?_
    refine wp rfl hC t_3l ?_
    refine wp rfl hC t_4 ?_
    refine WL_nil ?_
    refine W_ret ?_
    exact fin0 (.cons (.tmp rfl) .nil) rfl trivial
  ·
    have hsl := length_vseal se id b k v n
    have bs := B8_vseal se id b k v n
    have hMs : (RightR k v n (vseal se k id v n b).length ∧ k ≠ 1) := ⟨by rw [hsl]; exact right_16 hM.1 (by omega), hM.2⟩
    refine W_region ?_
    refine wp rfl hC t_1 ?_
    refine wp rfl hC t_32 ?_
    refine wp rfl hC t_37 ?_
    refine wp rfl hC t_1 ?_
    refine WL_cons hC.fn t_6f ?_
    refine WL_cons hC.fn t_6h ?_
    refine WL_cons hC.fn t_6j ?_
    refine WL_cons hC.fn t_6k ?_
    refine wp rfl hC t_3f ?_
    refine WL_nil ?_
    refine W_cond rfl (by decide) (fun hc => by cases hc) (fun _ => ?_)
    refine W_skip ?_
    refine wsr ?_
    refine wp rfl hC t_1 ?_
    refine wp rfl hC t_3e ?_
    refine wp rfl hC t_7d ?_
    refine wp rfl hC t_1 ?_
    refine wp rfl hC t_l ?_
    refine wp rfl hC t_l ?_
    refine wp rfl hC t_3h ?_
    refine wp rfl hC t_4t ?_
    refine wp rfl hC t_4 ?_
    refine WL_nil ?_
    refine W_seq ?_
    refine wsr ?_
    refine wp rfl hC t_1 ?_
    refine wp rfl hC t_28 ?_
    refine WL_nil ?_
    refine W_cond rfl (by decide) (fun hc => by cases hc) (fun _ => ?_)
    refine W_skip ?_
    refine W_seq ?_
    refine W_drawD hC ?_
    refine WD_cons (.plain rfl t_4r) ?_
    refine WD_cons (.plain rfl t_1) ?_
    refine WD_cons (.plain rfl (OpC.frz (ox_append (n' := se.length) (cs' := I .u8 se) hC (.tmp rfl) (.tmp rfl) t_35 t_a t_r Tryd.underlying22 cells_5 bytes_5 zero_5 rfl (by decide) t_1n t_t (Nat.zero_add _) ((app_I (us := []) rfl).trans rfl) t_n (by omega) rfl rfl) rfl (by simp) (by simp) (by simp) t_0 rfl rfl rfl)) ?_
    refine WD_cons (.plain rfl t_3e) ?_
    refine WD_cons (.plain rfl t_7d) ?_
    refine WD_cons (.plain rfl t_1) ?_
    refine WD_cons (.plain rfl t_l) ?_
    refine WD_cons (.plain rfl t_l) ?_
    refine WD_cons (.plain rfl t_3h) ?_
    refine WD_cons (.plain rfl t_4t) ?_
    refine WD_cons (.plain rfl t_4) ?_
    refine WD_nil t_x ?_
    refine W_seq ?_
    refine W_drawD hC ?_
    refine WD_cons (.plain rfl t_38) ?_
    refine WD_cons (.plain rfl t_3a) ?_
    refine WD_cons (.plain rfl (ox_len hC (.tmp rfl) t_a Tryd.underlying22 (r := (((vseal se k id v n b).length : Nat) : Int)) rfl rfl rfl)) ?_
    refine WD_cons (.plain rfl t_38) ?_
    refine WD_cons (.plain rfl t_3a) ?_
    refine WD_cons (.plain rfl t_32) ?_
    refine WD_cons (.plain rfl t_2b) ?_
    refine WD_cons (.plain rfl t_3u) ?_
    refine WD_cons (.plain rfl t_1) ?_
    refine WD_cons t_6y ?_
    refine WD_cons (.yes rfl rfl (by decide) rfl (oc_call hC (.cons (.tmp rfl) .nil) (.cons1 (.free t_0) (.same t_0)) (right_t k id v n (vseal se k id v n b) hid bid bs hMs.1) glob_nil t_0 t_8 rfl rfl)) ?_
    refine WD_cons (.plain rfl t_2z) ?_
    refine WD_cons (.plain rfl t_1) ?_
    refine WD_cons t_6y ?_
    refine WD_cons t_6y ?_
    refine WD_cons (.yes rfl rfl (by decide) rfl t_6a) ?_
    rw [decide_eq_true (show k = k ∧ id = id ∧ v = v ∧ n = n ∧ (vseal se k id v n b) = (vseal se k id v n b) from ⟨rfl, rfl, rfl, rfl, rfl⟩)]
    refine WD_cons (.plain rfl t_2z) ?_
    refine WD_cons (.plain rfl t_1) ?_
    refine WD_cons t_6y ?_
    refine WD_cons (.yes rfl rfl (by decide) rfl (oc_callN hC (.cons (.tmp rfl) .nil) (.cons1 (.free t_0) (.same t_0)) (header_c k id v n (vseal se k id v n b) hid bid bs hMs.1) glob_nil t_0 rfl t_q rfl rfl)) ?_
    refine WD_cons (.yes rfl rfl (by decide) rfl t_5s) ?_
    refine WD_cons t_6y ?_
    refine WD_cons (.yes rfl rfl (by decide) rfl t_5v) ?_
    refine WD_cons (.yes rfl rfl (by decide) rfl t_5s) ?_
    refine WD_cons (.yes rfl rfl (by decide) rfl t_2m) ?_
    refine WD_cons (.plain rfl t_2z) ?_
    refine WD_cons (.plain rfl t_1) ?_
    refine WD_cons t_6u ?_
    refine WD_cons (.plain rfl t_2z) ?_
    refine WD_cons (.plain rfl t_4) ?_
    refine WD_nil t_x ?_
    refine W_ret ?_
    exact fin0 (.cons (.tmp rfl) .nil) rfl trivial
end Go.Proofs.YtfngpppghlbanaaDoor
