/- Own work, printed by a program of this claim: walks through functions of the program. -/
import Derived.Test.YtfngpppghlbanaaDoorW9
import Derived.Test.YtfngpppghlbanaaDoorProg
import Derived.KernelRfl
set_option linter.unusedSimpArgs false
set_option linter.unusedVariables false
namespace Go.Proofs.YtfngpppghlbanaaDoor
open Go.Sk Go.RowKit
attribute [local simp] AV.inSL AV.inS inSL_I Blk.inS Blk.cs AV.novs AV.novsL novsL_I AV.ren AV.cells AV.one lk tuAV


set_option maxRecDepth 20000 in
set_option maxHeartbeats 4000000 in
theorem law_VaultCloses (se : List Int) (bse : B8 se) (k : Int) (id : List Int) (v n : Int) (b : List Int) (hid : id.length = 16) (bid : B8 id) (bb : B8 b) : FnC Tryd.prog 5 [(1000000, .rp (I .u32 tbl))] [.vs se.length (I .u8 se), .ag (recX k id v n (bodyV b))] [] [] (.b true) := by
  refine FnC.introR (N0 := 0) (T := 91) (E := [(0, .vs se.length (I .u8 se)), (1, .ag (recX k id v n (bodyV b))), (1000000, .rp (I .u32 tbl))]) Tryd.func5 rfl (by decide) mix rfl rfl rfl (by simp) rfl ⟨t_b, t_b, trivial⟩ (by simp) t_10 (fun F n0 X w ρ hC hro => ?_)
  refine wsr ?_
  refine wp rfl hC t_3s ?_
  refine wp rfl hC t_1d ?_
  refine WL_nil ?_
  refine W_seq ?_
  refine W_seq ?_
  rcases (show 60 < se.length ∨ (se.length ≤ 60 ∧ 60 < b.length ∧ b.length ≤ 262128) ∨ (se.length ≤ 60 ∧ b.length ≤ 60 ∧ ¬ RightR k v n b.length) ∨ (se.length ≤ 60 ∧ b.length ≤ 60 ∧ RightR k v n b.length ∧ k = 1) ∨ (se.length ≤ 60 ∧ 262128 < b.length ∧ ¬ RightR k v n b.length) ∨ (se.length ≤ 60 ∧ 262128 < b.length ∧ RightR k v n b.length ∧ k = 1) ∨ (se.length ≤ 60 ∧ 262128 < b.length ∧ RightR k v n b.length ∧ k ≠ 1) ∨ (se.length ≤ 60 ∧ b.length ≤ 60 ∧ RightR k v n b.length ∧ k ≠ 1) from by
    rcases Classical.em (RightR k v n b.length) with c1 | c1 <;> rcases Classical.em (k = 1) with c2 | c2 <;> rcases Nat.lt_or_ge 60 se.length with a1 | a1 <;> rcases Nat.lt_or_ge 262128 b.length with a4 | a4 <;> rcases Nat.lt_or_ge 60 b.length with a2 | a2
    all_goals first | exact .inl a1 | exact .inr (.inl ⟨a1, a2, a4⟩) | exact .inr (.inr (.inl ⟨a1, a2, c1⟩)) | exact .inr (.inr (.inr (.inl ⟨a1, a2, c1, c2⟩))) | exact .inr (.inr (.inr (.inr (.inl ⟨a1, a4, c1⟩)))) | exact .inr (.inr (.inr (.inr (.inr (.inl ⟨a1, a4, c1, c2⟩))))) | exact .inr (.inr (.inr (.inr (.inr (.inr (.inl ⟨a1, a4, c1, c2⟩)))))) | exact .inr (.inr (.inr (.inr (.inr (.inr (.inr (⟨a1, a2, c1, c2⟩)))))))) with h_ | h_ | ⟨h_, h2_, hN⟩ | ⟨h_, h2_, hN, hk⟩ | ⟨h_, h2_, hN⟩ | ⟨h_, h2_, hN, hk⟩ | ⟨h_, h2_, hN, hk⟩ | ⟨h_, h2_, hN, hk⟩
  ·
    refine W_region ?_
    refine wp rfl hC t_1 ?_
    refine wp rfl hC t_32 ?_
    refine wp rfl hC t_3b ?_
    refine wp rfl hC t_1 ?_
    refine WL_cons hC.fn (.no (s1 := ⟨_, (13, .tu []) :: _, _⟩) rfl rfl (by decide) rfl (by decide) (dst_ok rfl rfl) (fun t => setE_cons _ _ _ _) rfl rfl) ?_
    refine WL_cons hC.fn (.no (s1 := ⟨_, (14, .tu []) :: _, _⟩) rfl rfl (by decide) rfl (by decide) (dst_ok rfl rfl) (fun t => setE_cons _ _ _ _) rfl rfl) ?_
    refine WL_cons hC.fn (.no (s1 := ⟨_, (15, .tu []) :: _, _⟩) rfl rfl (by decide) rfl (by decide) (dst_ok rfl rfl) (fun t => setE_cons _ _ _ _) rfl rfl) ?_
    refine WL_cons hC.fn (.no (s1 := ⟨_, (16, .tu []) :: _, _⟩) rfl rfl (by decide) rfl (by decide) (dst_ok rfl rfl) (fun t => setE_cons _ _ _ _) rfl rfl) ?_
    refine WL_cons hC.fn (.no (s1 := ⟨_, (17, .tu []) :: _, _⟩) rfl rfl (by decide) rfl (by decide) (dst_ok rfl rfl) (fun t => setE_cons _ _ _ _) rfl rfl) ?_
    refine WL_cons hC.fn (.noU (s1 := ⟨_, (18, .tu []) :: _, _⟩) rfl rfl (by decide) rfl (dst_ok rfl rfl) (fun t => setE_cons _ _ _ _) rfl rfl) ?_
    refine WL_cons hC.fn (.noU (s1 := ⟨_, (19, .tu []) :: _, _⟩) rfl rfl (by decide) rfl (dst_ok rfl rfl) (fun t => setE_cons _ _ _ _) rfl rfl) ?_
    refine WL_cons hC.fn (.noU (s1 := ⟨_, (20, .tu []) :: _, _⟩) rfl rfl (by decide) rfl (dst_ok rfl rfl) (fun t => setE_cons _ _ _ _) rfl rfl) ?_
    refine WL_cons hC.fn (.noU (s1 := ⟨_, (21, .tu []) :: _, _⟩) rfl rfl (by decide) rfl (dst_ok rfl rfl) (fun t => setE_cons _ _ _ _) rfl rfl) ?_
    refine WL_cons hC.fn (.no (s1 := ⟨_, (22, .tu []) :: _, _⟩) rfl rfl (by decide) rfl (by decide) (dst_ok rfl rfl) (fun t => setE_cons _ _ _ _) rfl rfl) ?_
    refine wp rfl hC t_3f ?_
    refine WL_nil ?_
    refine W_cond rfl (by decide) (fun _ => ?_) (fun hc => by cases hc)
    refine wsr ?_
    refine wp rfl hC t_3l ?_
    refine wp rfl hC t_4 ?_
    refine WL_nil ?_
    refine W_ret ?_
    exact fin0 (.cons (.tmp rfl) .nil) rfl trivial
  ·
    refine W_region ?_
    refine wp rfl hC t_1 ?_
    refine wp rfl hC t_32 ?_
    refine wp rfl hC t_37 ?_
    refine wp rfl hC t_1 ?_
    refine WL_cons hC.fn t_6f ?_
    refine WL_cons hC.fn t_6h ?_
    refine WL_cons hC.fn t_6j ?_
    refine WL_cons hC.fn t_6i ?_
    refine WL_cons hC.fn t_3d ?_
    refine WL_cons hC.fn t_6f ?_
    refine WL_cons hC.fn t_6h ?_
    refine WL_cons hC.fn t_6j ?_
    refine WL_cons hC.fn t_6i ?_
    refine WL_cons hC.fn t_7a ?_
    refine wp rfl hC t_3f ?_
    refine WL_nil ?_
    refine W_cond rfl (by decide) (fun _ => ?_) (fun hc => by cases hc)
    refine wsr ?_
    refine wp rfl hC t_3l ?_
    refine wp rfl hC t_4 ?_
    refine WL_nil ?_
    refine W_ret ?_
    exact fin0 (.cons (.tmp rfl) .nil) rfl trivial
  ·
    have hM : ¬ (RightR k v n b.length ∧ k ≠ 1) := fun e => hN e.1
    refine W_region ?_
    refine wp rfl hC t_1 ?_
    refine wp rfl hC t_32 ?_
    refine wp rfl hC t_37 ?_
    refine wp rfl hC t_1 ?_
    refine WL_cons hC.fn t_6f ?_
    refine WL_cons hC.fn t_6h ?_
    refine WL_cons hC.fn t_6j ?_
    refine WL_cons hC.fn t_6k ?_
    refine WL_cons hC.fn t_3d ?_
    refine WL_cons hC.fn (.no (s1 := ⟨_, (18, .tu []) :: _, _⟩) rfl rfl (by decide) rfl (by decide) (dst_ok rfl rfl) (fun t => setE_cons _ _ _ _) rfl rfl) ?_
    refine WL_cons hC.fn (.no (s1 := ⟨_, (19, .tu []) :: _, _⟩) rfl rfl (by decide) rfl (by decide) (dst_ok rfl rfl) (fun t => setE_cons _ _ _ _) rfl rfl) ?_
    refine WL_cons hC.fn (.no (s1 := ⟨_, (20, .tu []) :: _, _⟩) rfl rfl (by decide) rfl (by decide) (dst_ok rfl rfl) (fun t => setE_cons _ _ _ _) rfl rfl) ?_
    refine WL_cons hC.fn (.no (s1 := ⟨_, (21, .tu []) :: _, _⟩) rfl rfl (by decide) rfl (by decide) (dst_ok rfl rfl) (fun t => setE_cons _ _ _ _) rfl rfl) ?_
    refine WL_cons hC.fn t_7a ?_
    refine wp rfl hC t_3f ?_
    refine WL_nil ?_
    refine W_cond rfl (by decide) (fun hc => by cases hc) (fun _ => ?_)
    refine W_skip ?_
    refine wsr ?_
    refine wp rfl hC t_3g ?_
    refine wp rfl hC t_3c ?_
    refine wp rfl hC t_3q ?_
    refine wp rfl hC t_3y ?_
    refine wp rfl hC t_3k ?_
    refine wp rfl hC t_3i ?_
    refine wp rfl hC t_3t ?_
    refine wp rfl hC t_3o ?_
    refine wp rfl hC t_38 ?_
    refine wp rfl hC t_3a ?_
    refine wp rfl hC t_51 ?_
    refine wp rfl hC t_4v ?_
    refine wp rfl hC t_50 ?_
    refine WL_nil ?_
    refine wsr ?_
    refine wp rfl hC t_1 ?_
    refine wp rfl hC t_3e ?_
    refine wp rfl hC t_76 ?_
    refine wp rfl hC t_1 ?_
    refine wp rfl hC t_l ?_
    refine wp rfl hC t_l ?_
    refine wp rfl hC t_3h ?_
    refine wp rfl hC t_44 ?_
    refine wp rfl hC t_4 ?_
    refine WL_nil ?_
    refine W_seq ?_
    refine W_blk ?_
    refine wsr ?_
    refine wp rfl hC t_4i ?_
    refine wp rfl hC t_5u ?_
    refine wp rfl hC t_1m ?_
    refine wp rfl hC t_1 ?_
    refine WL_cons hC.fn (.no (s1 := ⟨_, (47, .tu []) :: _, _⟩) rfl rfl (by decide) rfl (by decide) (dst_ok rfl rfl) (fun t => setE_cons _ _ _ _) rfl rfl) ?_
    refine WL_cons hC.fn (.no (s1 := ⟨_, (48, .tu []) :: _, _⟩) rfl rfl (by decide) rfl (by decide) (dst_ok rfl rfl) (fun t => setE_cons _ _ _ _) rfl rfl) ?_
    refine WL_cons hC.fn (.no (s1 := ⟨_, (49, .tu []) :: _, _⟩) rfl rfl (by decide) rfl (by decide) (dst_ok rfl rfl) (fun t => setE_cons _ _ _ _) rfl rfl) ?_
    refine wp rfl hC t_3f ?_
    refine wp rfl hC t_4 ?_
    refine WL_nil ?_
    refine W_cond rfl (by decide) (fun _ => ?_) (fun hc => by cases hc)
    refine wsr ?_
    refine wp rfl hC t_4n ?_
    refine wp rfl hC t_4q ?_
    refine wp rfl hC t_57 ?_
    refine wp rfl hC t_1 ?_
    refine WL_cons hC.fn t_3d ?_
    refine WL_cons hC.fn t_4f ?_
    refine wp rfl hC t_2z ?_
    refine wp rfl hC t_1 ?_
    refine WL_cons hC.fn t_6u ?_
    refine wp rfl hC t_2z ?_
    refine wp rfl hC t_4 ?_
    refine WL_nil ?_
    refine W_ret ?_
    exact fin0 (.cons (.tmp rfl) .nil) rfl trivial
  ·
    have hM : ¬ (RightR k v n b.length ∧ k ≠ 1) := fun e => e.2 hk
    refine W_region ?_
    refine wp rfl hC t_1 ?_
    refine wp rfl hC t_32 ?_
    refine wp rfl hC t_37 ?_
    refine wp rfl hC t_1 ?_
    refine WL_cons hC.fn t_6f ?_
    refine WL_cons hC.fn t_6h ?_
    refine WL_cons hC.fn t_6j ?_
    refine WL_cons hC.fn t_6k ?_
    refine WL_cons hC.fn t_3d ?_
    refine WL_cons hC.fn (.no (s1 := ⟨_, (18, .tu []) :: _, _⟩) rfl rfl (by decide) rfl (by decide) (dst_ok rfl rfl) (fun t => setE_cons _ _ _ _) rfl rfl) ?_
    refine WL_cons hC.fn (.no (s1 := ⟨_, (19, .tu []) :: _, _⟩) rfl rfl (by decide) rfl (by decide) (dst_ok rfl rfl) (fun t => setE_cons _ _ _ _) rfl rfl) ?_
    refine WL_cons hC.fn (.no (s1 := ⟨_, (20, .tu []) :: _, _⟩) rfl rfl (by decide) rfl (by decide) (dst_ok rfl rfl) (fun t => setE_cons _ _ _ _) rfl rfl) ?_
    refine WL_cons hC.fn (.no (s1 := ⟨_, (21, .tu []) :: _, _⟩) rfl rfl (by decide) rfl (by decide) (dst_ok rfl rfl) (fun t => setE_cons _ _ _ _) rfl rfl) ?_
    refine WL_cons hC.fn t_7a ?_
    refine wp rfl hC t_3f ?_
    refine WL_nil ?_
    refine W_cond rfl (by decide) (fun hc => by cases hc) (fun _ => ?_)
    refine W_skip ?_
    refine wsr ?_
    refine wp rfl hC t_3g ?_
    refine wp rfl hC t_3c ?_
    refine wp rfl hC t_3q ?_
    refine wp rfl hC t_3y ?_
    refine wp rfl hC t_3k ?_
    refine wp rfl hC t_3i ?_
    refine wp rfl hC t_3t ?_
    refine wp rfl hC t_3o ?_
    refine wp rfl hC t_38 ?_
    refine wp rfl hC t_3a ?_
    refine wp rfl hC t_51 ?_
    refine wp rfl hC t_4v ?_
    refine wp rfl hC t_50 ?_
    refine WL_nil ?_
    refine wsr ?_
    refine wp rfl hC t_1 ?_
    refine wp rfl hC t_3e ?_
    refine wp rfl hC t_76 ?_
    refine wp rfl hC t_1 ?_
    refine wp rfl hC t_l ?_
    refine wp rfl hC t_l ?_
    refine wp rfl hC t_3h ?_
    refine wp rfl hC t_44 ?_
    refine wp rfl hC t_4 ?_
    refine WL_nil ?_
    refine W_seq ?_
    refine W_blk ?_
    refine wsr ?_
    refine wp rfl hC t_4i ?_
    refine wp rfl hC t_5d ?_
    refine wp rfl hC t_1m ?_
    refine wp rfl hC t_1 ?_
    refine WL_cons hC.fn t_72 ?_
    refine WL_cons hC.fn t_6s ?_
    refine WL_cons hC.fn t_2t ?_
    refine wp rfl hC t_3f ?_
    refine wp rfl hC t_4 ?_
    refine WL_nil ?_
    refine W_cond rfl (by decide) (fun _ => ?_) (fun hc => by cases hc)
    refine wsr ?_
    refine wp rfl hC t_4n ?_
    refine wp rfl hC t_4q ?_
    refine wp rfl hC t_57 ?_
    refine wp rfl hC t_1 ?_
    refine WL_cons hC.fn t_3d ?_
    refine WL_cons hC.fn t_4f ?_
    refine wp rfl hC t_2z ?_
    refine wp rfl hC t_1 ?_
    refine WL_cons hC.fn t_6u ?_
    refine wp rfl hC t_2z ?_
    refine wp rfl hC t_4 ?_
    refine WL_nil ?_
    refine W_ret ?_
    exact fin0 (.cons (.tmp rfl) .nil) rfl trivial
  ·
    have hM : ¬ (RightR k v n b.length ∧ k ≠ 1) := fun e => hN e.1
    refine W_region ?_
    refine wp rfl hC t_1 ?_
    refine wp rfl hC t_32 ?_
    refine wp rfl hC t_37 ?_
    refine wp rfl hC t_1 ?_
    refine WL_cons hC.fn t_6f ?_
    refine WL_cons hC.fn t_6h ?_
    refine WL_cons hC.fn t_6j ?_
    refine WL_cons hC.fn t_6i ?_
    refine WL_cons hC.fn t_3d ?_
    refine WL_cons hC.fn t_6f ?_
    refine WL_cons hC.fn t_6h ?_
    refine WL_cons hC.fn t_6j ?_
    refine WL_cons hC.fn t_6k ?_
    refine WL_cons hC.fn t_7a ?_
    refine wp rfl hC t_3f ?_
    refine WL_nil ?_
    refine W_cond rfl (by decide) (fun hc => by cases hc) (fun _ => ?_)
    refine W_skip ?_
    refine wsr ?_
    refine wp rfl hC t_3g ?_
    refine wp rfl hC t_3c ?_
    refine wp rfl hC t_3q ?_
    refine wp rfl hC t_3y ?_
    refine wp rfl hC t_3k ?_
    refine wp rfl hC t_3i ?_
    refine wp rfl hC t_3t ?_
    refine wp rfl hC t_3o ?_
    refine wp rfl hC t_38 ?_
    refine wp rfl hC t_3a ?_
    refine wp rfl hC t_51 ?_
    refine wp rfl hC t_4v ?_
    refine wp rfl hC t_50 ?_
    refine WL_nil ?_
    refine wsr ?_
    refine wp rfl hC t_1 ?_
    refine wp rfl hC t_3e ?_
    refine wp rfl hC t_76 ?_
    refine wp rfl hC t_1 ?_
    refine wp rfl hC t_l ?_
    refine wp rfl hC t_l ?_
    refine wp rfl hC t_3h ?_
    refine wp rfl hC t_44 ?_
    refine wp rfl hC t_4 ?_
    refine WL_nil ?_
    refine W_seq ?_
    refine W_blk ?_
    refine wsr ?_
    refine wp rfl hC t_4i ?_
    refine wp rfl hC t_5u ?_
    refine wp rfl hC t_1m ?_
    refine wp rfl hC t_1 ?_
    refine WL_cons hC.fn (.no (s1 := ⟨_, (47, .tu []) :: _, _⟩) rfl rfl (by decide) rfl (by decide) (dst_ok rfl rfl) (fun t => setE_cons _ _ _ _) rfl rfl) ?_
    refine WL_cons hC.fn (.no (s1 := ⟨_, (48, .tu []) :: _, _⟩) rfl rfl (by decide) rfl (by decide) (dst_ok rfl rfl) (fun t => setE_cons _ _ _ _) rfl rfl) ?_
    refine WL_cons hC.fn (.no (s1 := ⟨_, (49, .tu []) :: _, _⟩) rfl rfl (by decide) rfl (by decide) (dst_ok rfl rfl) (fun t => setE_cons _ _ _ _) rfl rfl) ?_
    refine wp rfl hC t_3f ?_
    refine wp rfl hC t_4 ?_
    refine WL_nil ?_
    refine W_cond rfl (by decide) (fun _ => ?_) (fun hc => by cases hc)
    refine wsr ?_
    refine wp rfl hC t_4n ?_
    refine wp rfl hC t_4q ?_
    refine wp rfl hC t_57 ?_
    refine wp rfl hC t_1 ?_
    refine WL_cons hC.fn t_3d ?_
    refine WL_cons hC.fn t_4f ?_
    refine wp rfl hC t_2z ?_
    refine wp rfl hC t_1 ?_
    refine WL_cons hC.fn t_6u ?_
    refine wp rfl hC t_2z ?_
    refine wp rfl hC t_4 ?_
    refine WL_nil ?_
    refine W_ret ?_
    exact fin0 (.cons (.tmp rfl) .nil) rfl trivial
  ·
    have hM : ¬ (RightR k v n b.length ∧ k ≠ 1) := fun e => e.2 hk
    refine W_region ?_
    refine wp rfl hC t_1 ?_
    refine wp rfl hC t_32 ?_
    refine wp rfl hC t_37 ?_
    refine wp rfl hC t_1 ?_
    refine WL_cons hC.fn t_6f ?_
    refine WL_cons hC.fn t_6h ?_
    refine WL_cons hC.fn t_6j ?_
    refine WL_cons hC.fn t_6i ?_
    refine WL_cons hC.fn t_3d ?_
    refine WL_cons hC.fn t_6f ?_
    refine WL_cons hC.fn t_6h ?_
    refine WL_cons hC.fn t_6j ?_
    refine WL_cons hC.fn t_6k ?_
    refine WL_cons hC.fn t_7a ?_
    refine wp rfl hC t_3f ?_
    refine WL_nil ?_
    refine W_cond rfl (by decide) (fun hc => by cases hc) (fun _ => ?_)
    refine W_skip ?_
    refine wsr ?_
    refine wp rfl hC t_3g ?_
    refine wp rfl hC t_3c ?_
    refine wp rfl hC t_3q ?_
    refine wp rfl hC t_3y ?_
    refine wp rfl hC t_3k ?_
    refine wp rfl hC t_3i ?_
    refine wp rfl hC t_3t ?_
    refine wp rfl hC t_3o ?_
    refine wp rfl hC t_38 ?_
    refine wp rfl hC t_3a ?_
    refine wp rfl hC t_51 ?_
    refine wp rfl hC t_4v ?_
    refine wp rfl hC t_50 ?_
    refine WL_nil ?_
    refine wsr ?_
    refine wp rfl hC t_1 ?_
    refine wp rfl hC t_3e ?_
    refine wp rfl hC t_76 ?_
    refine wp rfl hC t_1 ?_
    refine wp rfl hC t_l ?_
    refine wp rfl hC t_l ?_
    refine wp rfl hC t_3h ?_
    refine wp rfl hC t_44 ?_
    refine wp rfl hC t_4 ?_
    refine WL_nil ?_
    refine W_seq ?_
    refine W_blk ?_
    refine wsr ?_
    refine wp rfl hC t_4i ?_
    refine wp rfl hC t_5d ?_
    refine wp rfl hC t_1m ?_
    refine wp rfl hC t_1 ?_
    refine WL_cons hC.fn t_72 ?_
    refine WL_cons hC.fn t_6s ?_
    refine WL_cons hC.fn t_2t ?_
    refine wp rfl hC t_3f ?_
    refine wp rfl hC t_4 ?_
    refine WL_nil ?_
    refine W_cond rfl (by decide) (fun _ => ?_) (fun hc => by cases hc)
    refine wsr ?_
    refine wp rfl hC t_4n ?_
    refine wp rfl hC t_4q ?_
    refine wp rfl hC t_57 ?_
    refine wp rfl hC t_1 ?_
    refine WL_cons hC.fn t_3d ?_
    refine WL_cons hC.fn t_4f ?_
    refine wp rfl hC t_2z ?_
    refine wp rfl hC t_1 ?_
    refine WL_cons hC.fn t_6u ?_
    refine wp rfl hC t_2z ?_
    refine wp rfl hC t_4 ?_
    refine WL_nil ?_
    refine W_ret ?_
    exact fin0 (.cons (.tmp rfl) .nil) rfl trivial
  ·
    have hM : (RightR k v n b.length ∧ k ≠ 1) := ⟨hN, hk⟩
    have hbm := hN.2.2.2.2.2.2
    refine W_region ?_
    refine wp rfl hC t_1 ?_
    refine wp rfl hC t_32 ?_
    refine wp rfl hC t_37 ?_
    refine wp rfl hC t_1 ?_
    refine WL_cons hC.fn t_6f ?_
    refine WL_cons hC.fn t_6h ?_
    refine WL_cons hC.fn t_6j ?_
    refine WL_cons hC.fn t_6i ?_
    refine WL_cons hC.fn t_3d ?_
    refine WL_cons hC.fn t_6f ?_
    refine WL_cons hC.fn t_6h ?_
    refine WL_cons hC.fn t_6j ?_
    refine WL_cons hC.fn t_6k ?_
    refine WL_cons hC.fn t_7a ?_
    refine wp rfl hC t_3f ?_
    refine WL_nil ?_
    refine W_cond rfl (by decide) (fun hc => by cases hc) (fun _ => ?_)
    refine W_skip ?_
    refine wsr ?_
    refine wp rfl hC t_3g ?_
    refine wp rfl hC t_3c ?_
    refine wp rfl hC t_3q ?_
    refine wp rfl hC t_3y ?_
    refine wp rfl hC t_3k ?_
    refine wp rfl hC t_3i ?_
    refine wp rfl hC t_3t ?_
    refine wp rfl hC t_3o ?_
    refine wp rfl hC t_38 ?_
    refine wp rfl hC t_3a ?_
    refine wp rfl hC t_51 ?_
    refine wp rfl hC t_4v ?_
    refine wp rfl hC t_50 ?_
    refine WL_nil ?_
    refine wsr ?_
    refine wp rfl hC t_1 ?_
    refine wp rfl hC t_3e ?_
    refine wp rfl hC (oc_call hC (.cons (.tmp rfl) (.cons (.tmp rfl) .nil)) (.cons1 t_31 (.cons1 (.free t_0) (.same t_0))) (vcloselong_c se bse (by omega) k id v n b hid bid bb hM (by omega) (by omega)) (glob_cons rfl rfl t_0 glob_nil) t_0 t_8 rfl rfl) ?_
    refine wp rfl hC t_1 ?_
    refine wp rfl hC t_l ?_
    refine wp rfl hC t_l ?_
    refine wp rfl hC t_3h ?_
    refine wp rfl hC t_44 ?_
    refine wp rfl hC t_4 ?_
    refine WL_nil ?_
    refine W_seq ?_
    refine W_blk ?_
    refine wsr ?_
    refine wp rfl hC t_4i ?_
    refine wp rfl hC t_5d ?_
    refine wp rfl hC t_1m ?_
    refine wp rfl hC t_1 ?_
    refine WL_cons hC.fn t_72 ?_
    refine WL_cons hC.fn t_6s ?_
    refine WL_cons hC.fn t_2u ?_
    refine wp rfl hC t_3f ?_
    refine wp rfl hC t_4 ?_
    refine WL_nil ?_
    refine W_cond rfl (by decide) (fun hc => by cases hc) (fun _ => ?_)
    refine wsr ?_
    refine wp rfl hC t_38 ?_
    refine wp rfl hC t_3a ?_
    refine wp rfl hC t_32 ?_
    refine wp rfl hC t_3b ?_
    refine wp rfl hC t_4 ?_
    refine WL_nil ?_
    refine W_cond rfl (by decide) (fun _ => ?_) (fun hc => by cases hc)
    refine wsr ?_
    refine wp rfl hC t_4n ?_
    refine wp rfl hC t_4q ?_
    refine wp rfl hC t_57 ?_
    refine wp rfl hC t_1 ?_
    refine WL_cons hC.fn t_3d ?_
    refine WL_cons hC.fn t_4f ?_
    refine wp rfl hC t_2z ?_
    refine wp rfl hC t_1 ?_
    refine WL_cons hC.fn t_6u ?_
    refine wp rfl hC t_2z ?_
    refine wp rfl hC t_4 ?_
    refine WL_nil ?_
    refine W_ret ?_
    exact fin0 (.cons (.tmp rfl) .nil) rfl trivial
  ·
    have hM : (RightR k v n b.length ∧ k ≠ 1) := ⟨hN, hk⟩
    have hsl := length_vseal se id b k v n
    have bs := B8_vseal se id b k v n
    refine W_region ?_
    refine wp rfl hC t_1 ?_
    refine wp rfl hC t_32 ?_
    refine wp rfl hC t_37 ?_
    refine wp rfl hC t_1 ?_
    refine WL_cons hC.fn t_6f ?_
    refine WL_cons hC.fn t_6h ?_
    refine WL_cons hC.fn t_6j ?_
    refine WL_cons hC.fn t_6k ?_
    refine WL_cons hC.fn t_3d ?_
    refine WL_cons hC.fn (.no (s1 := ⟨_, (18, .tu []) :: _, _⟩) rfl rfl (by decide) rfl (by decide) (dst_ok rfl rfl) (fun t => setE_cons _ _ _ _) rfl rfl) ?_
    refine WL_cons hC.fn (.no (s1 := ⟨_, (19, .tu []) :: _, _⟩) rfl rfl (by decide) rfl (by decide) (dst_ok rfl rfl) (fun t => setE_cons _ _ _ _) rfl rfl) ?_
    refine WL_cons hC.fn (.no (s1 := ⟨_, (20, .tu []) :: _, _⟩) rfl rfl (by decide) rfl (by decide) (dst_ok rfl rfl) (fun t => setE_cons _ _ _ _) rfl rfl) ?_
    refine WL_cons hC.fn (.no (s1 := ⟨_, (21, .tu []) :: _, _⟩) rfl rfl (by decide) rfl (by decide) (dst_ok rfl rfl) (fun t => setE_cons _ _ _ _) rfl rfl) ?_
    refine WL_cons hC.fn t_7a ?_
    refine wp rfl hC t_3f ?_
    refine WL_nil ?_
    refine W_cond rfl (by decide) (fun hc => by cases hc) (fun _ => ?_)
    refine W_skip ?_
    refine wsr ?_
    refine wp rfl hC t_3g ?_
    refine wp rfl hC t_3c ?_
    refine wp rfl hC t_3q ?_
    refine wp rfl hC t_3y ?_
    refine wp rfl hC t_3k ?_
    refine wp rfl hC t_3i ?_
    refine wp rfl hC t_3t ?_
    refine wp rfl hC t_3o ?_
    refine wp rfl hC t_38 ?_
    refine wp rfl hC t_3a ?_
    refine wp rfl hC t_51 ?_
    refine wp rfl hC t_4v ?_
    refine wp rfl hC t_50 ?_
    refine WL_nil ?_
    refine wsr ?_
    refine wp rfl hC t_1 ?_
    refine wp rfl hC t_3e ?_
    refine wp rfl hC t_7d ?_
    refine wp rfl hC t_1 ?_
    refine wp rfl hC t_l ?_
    refine wp rfl hC t_l ?_
    refine wp rfl hC t_3h ?_
    refine wp rfl hC t_4t ?_
    refine wp rfl hC t_4 ?_
    refine WL_nil ?_
    refine W_seq ?_
    refine W_blk ?_
    refine wsr ?_
    refine wp rfl hC t_4i ?_
    refine wp rfl hC t_5d ?_
    refine wp rfl hC t_1m ?_
    refine wp rfl hC t_1 ?_
    refine WL_cons hC.fn t_72 ?_
    refine WL_cons hC.fn t_6s ?_
    refine WL_cons hC.fn t_2u ?_
    refine wp rfl hC t_3f ?_
    refine wp rfl hC t_4 ?_
    refine WL_nil ?_
    refine W_cond rfl (by decide) (fun hc => by cases hc) (fun _ => ?_)
    refine wsr ?_
    refine wp rfl hC t_38 ?_
    refine wp rfl hC t_3a ?_
    refine wp rfl hC t_32 ?_
    refine wp rfl hC t_37 ?_
    refine wp rfl hC t_4 ?_
    refine WL_nil ?_
    refine W_cond rfl (by decide) (fun hc => by cases hc) (fun _ => ?_)
    refine W_skip ?_
    refine wsr ?_
    refine wp rfl hC t_3e ?_
    refine wp rfl hC t_3h ?_
    refine wp rfl hC t_56 ?_
    refine WL_nil ?_
    refine wsr ?_
    refine wp rfl hC t_1 ?_
    refine wp rfl hC t_4i ?_
    refine wp rfl hC (oc_callN hC (.cons (.tmp rfl) (.cons (.tmp rfl) .nil)) (.cons1 t_31 (.cons1 (.free t_0) (.same t_0))) (rvclose_c se bse (by omega) k id v n b hid bid bb hN) glob_nil t_0 rfl t_q rfl rfl) ?_
    refine wp rfl hC t_38 ?_
    refine wp rfl hC (ox_store (bk' := .blk 33 (recX k id v n (.row 4))) hC (.tmp rfl) (.tmp rfl) rfl shp_22 rfl rfl t_2a (put_rz hid) t_f rfl) ?_
    refine WL_nil ?_
    refine wsr ?_
    refine WL_weak (weak_frzB (j := 3) (i := 19) (us := I .u8 (vseal se k id v n b)) rfl (rec_get hid).2.2.2 rfl t_f t_o (by rw [length_I]; exact fun h => h) (inSL_I _)) ?_
    rw [set_rz hid]
    refine wp rfl hC t_1 ?_
    refine wp rfl hC t_1q ?_
    refine wp rfl hC t_1 ?_
    refine WL_cons hC.fn t_6y ?_
    refine WL_cons hC.fn t_6y ?_
    refine WL_cons hC.fn (.yes rfl rfl (by decide) rfl t_6a) ?_
    rw [decide_eq_true (show k = k ∧ id = id ∧ v = v ∧ n = n ∧ (vseal se k id v n b) = (vseal se k id v n b) from ⟨rfl, rfl, rfl, rfl, rfl⟩)]
    refine wp rfl hC t_2z ?_
    refine wp rfl hC t_1 ?_
    refine WL_cons hC.fn t_6u ?_
    refine wp rfl hC t_2z ?_
    refine wp rfl hC t_4 ?_
    refine WL_nil ?_
    refine W_ret ?_
    exact fin0 (.cons (.tmp rfl) .nil) rfl trivial
end Go.Proofs.YtfngpppghlbanaaDoor
