/- Own work, printed by a program of this claim: walks through functions of the program. -/
import Derived.Test.YtfngpppghlbanaaDoorW9
import Derived.Test.YtfngpppghlbanaaDoorProg
import Derived.KernelRfl
set_option linter.unusedSimpArgs false
set_option linter.unusedVariables false
namespace Go.Proofs.YtfngpppghlbanaaDoor
open Go.Sk Go.RowKit
attribute [local simp] AV.inSL AV.inS inSL_I Blk.inS Blk.cs AV.novs AV.novsL novsL_I AV.ren AV.cells AV.one lk tuAV


set_option maxRecDepth 20000 in
set_option maxHeartbeats 4000000 in
theorem law_VaultBack (se : List Int) (bse : B8 se) (k : Int) (id : List Int) (v n : Int) (b : List Int) (hid : id.length = 16) (bid : B8 id) (bb : B8 b) (at_ : Nat) (y : Int) (hat : at_ < 256) (hy : 0 ≤ y ∧ y < 256) : FnC Tryd.prog 4 [(1000000, .rp (I .u32 tbl))] [.vs se.length (I .u8 se), .ag (recX k id v n (bodyV b)), .i .u8 at_, .i .u8 y] [] [] (.b true) := by
  refine FnC.introR (N0 := 0) (T := 136) (E := [(0, .vs se.length (I .u8 se)), (1, .ag (recX k id v n (bodyV b))), (2, .i .u8 at_), (3, .i .u8 y), (1000000, .rp (I .u32 tbl))]) Tryd.func4 rfl (by decide) mix rfl rfl rfl (by simp) rfl ⟨t_b, t_b, t_b, t_b, trivial⟩ (by simp) t_10 (fun F n0 X w ρ hC hro => ?_)
  refine wsr ?_
  refine wp rfl hC t_3s ?_
  refine wp rfl hC t_1d ?_
  refine WL_nil ?_
  refine W_seq ?_
  refine W_seq ?_
  rcases (show (60 < se.length) ∨ (se.length ≤ 60 ∧ 500 < b.length) ∨ (se.length ≤ 60 ∧ b.length ≤ 500 ∧ ¬ (RightR k v n b.length ∧ k ≠ 1)) ∨ (se.length ≤ 60 ∧ b.length ≤ 500 ∧ (RightR k v n b.length ∧ k ≠ 1)) from by
    rcases Classical.em (RightR k v n b.length ∧ k ≠ 1) with c | c <;> rcases Nat.lt_or_ge 60 se.length with a | a <;> rcases Nat.lt_or_ge 500 b.length with a2 | a2
    all_goals first | exact .inl a | exact .inr (.inl ⟨a, a2⟩) | exact .inr (.inr (.inl ⟨a, a2, c⟩)) | exact .inr (.inr (.inr ⟨a, a2, c⟩))) with h_ | h_ | ⟨h_, h2_, hM⟩ | ⟨h_, h2_, hM⟩
  ·
    refine W_region ?_
    refine wp rfl hC t_1 ?_
    refine wp rfl hC t_32 ?_
    refine wp rfl hC t_3b ?_
    refine wp rfl hC t_1 ?_
    refine WL_cons hC.fn (.no (s1 := ⟨_, (21, .tu []) :: _, _⟩) rfl rfl (by decide) rfl (by decide) (dst_ok rfl rfl) (fun t => setE_cons _ _ _ _) rfl rfl) ?_
    refine WL_cons hC.fn (.no (s1 := ⟨_, (22, .tu []) :: _, _⟩) rfl rfl (by decide) rfl (by decide) (dst_ok rfl rfl) (fun t => setE_cons _ _ _ _) rfl rfl) ?_
    refine WL_cons hC.fn (.no (s1 := ⟨_, (23, .tu []) :: _, _⟩) rfl rfl (by decide) rfl (by decide) (dst_ok rfl rfl) (fun t => setE_cons _ _ _ _) rfl rfl) ?_
    refine WL_cons hC.fn (.no (s1 := ⟨_, (24, .tu []) :: _, _⟩) rfl rfl (by decide) rfl (by decide) (dst_ok rfl rfl) (fun t => setE_cons _ _ _ _) rfl rfl) ?_
    refine wp rfl hC t_3f ?_
    refine WL_nil ?_
    refine W_cond rfl (by decide) (fun _ => ?_) (fun hc => by cases hc)
    refine wsr ?_
    refine wp rfl hC t_3l ?_
    refine wp rfl hC t_4 ?_
    refine WL_nil ?_
    refine W_ret ?_
    exact fin0 (.cons (.tmp rfl) .nil) rfl trivial
  ·
    refine W_region ?_
    refine wp rfl hC t_1 ?_
    refine wp rfl hC t_32 ?_
    refine wp rfl hC t_37 ?_
    refine wp rfl hC t_1 ?_
    refine WL_cons hC.fn t_6f ?_
    refine WL_cons hC.fn t_6h ?_
    refine WL_cons hC.fn t_6j ?_
    refine WL_cons hC.fn t_6i ?_
    refine wp rfl hC t_3f ?_
    refine WL_nil ?_
    refine W_cond rfl (by decide) (fun _ => ?_) (fun hc => by cases hc)
    refine wsr ?_
    refine wp rfl hC t_3l ?_
    refine wp rfl hC t_4 ?_
    refine WL_nil ?_
    refine W_ret ?_
    exact fin0 (.cons (.tmp rfl) .nil) rfl trivial
  ·
    refine W_region ?_
    refine wp rfl hC t_1 ?_
    refine wp rfl hC t_32 ?_
    refine wp rfl hC t_37 ?_
    refine wp rfl hC t_1 ?_
    refine WL_cons hC.fn t_6f ?_
    refine WL_cons hC.fn t_6h ?_
    refine WL_cons hC.fn t_6j ?_
    refine WL_cons hC.fn t_6k ?_
    refine wp rfl hC t_3f ?_
    refine WL_nil ?_
    refine W_cond rfl (by decide) (fun hc => by cases hc) (fun _ => ?_)
    refine W_skip ?_
    refine wsr ?_
    refine wp rfl hC t_1 ?_
    refine wp rfl hC t_3e ?_
    refine wp rfl hC t_76 ?_
    refine wp rfl hC t_1 ?_
    refine wp rfl hC t_l ?_
    refine wp rfl hC t_l ?_
    refine wp rfl hC t_3h ?_
    refine wp rfl hC t_44 ?_
    refine wp rfl hC t_4 ?_
    refine WL_nil ?_
    refine W_seq ?_
    refine wsr ?_
    refine wp rfl hC t_1 ?_
    refine wp rfl hC t_1q ?_
    refine WL_nil ?_
    refine W_cond rfl (by decide) (fun _ => ?_) (fun hc => by cases hc)
    refine wsr ?_
    refine wp rfl hC t_1 ?_
    refine wp rfl hC t_3e ?_
    refine wp rfl hC (oc_call hC (.cons (.tmp rfl) (.cons (.tmp rfl) .nil)) (.cons1 t_31 (.cons1 (.free t_0) (.same t_0))) (vopenno_c se bse (by omega) k id v n b hid bid bb hM) (glob_cons rfl rfl t_0 glob_nil) t_0 t_8 rfl rfl) ?_
    refine wp rfl hC t_1 ?_
    refine wp rfl hC t_l ?_
    refine wp rfl hC t_l ?_
    refine wp rfl hC t_4 ?_
    refine wp rfl hC t_4 ?_
    refine WL_nil ?_
    refine wsr ?_
    refine wp rfl hC t_1 ?_
    refine wp rfl hC t_1q ?_
    refine wp rfl hC t_1 ?_
    refine WL_cons hC.fn t_6u ?_
    refine wp rfl hC t_2z ?_
    refine wp rfl hC t_4 ?_
    refine WL_nil ?_
    refine W_ret ?_
    exact fin0 (.cons (.tmp rfl) .nil) rfl trivial
  ·
    have hsl := length_vseal se id b k v n
    have bs := B8_vseal se id b k v n
    have hMs : (RightR k v n (vseal se k id v n b).length ∧ k ≠ 1) := ⟨by rw [hsl]; exact right_16 hM.1 (by omega), hM.2⟩
    refine W_region ?_
    refine wp rfl hC t_1 ?_
    refine wp rfl hC t_32 ?_
    refine wp rfl hC t_37 ?_
    refine wp rfl hC t_1 ?_
    refine WL_cons hC.fn t_6f ?_
    refine WL_cons hC.fn t_6h ?_
    refine WL_cons hC.fn t_6j ?_
    refine WL_cons hC.fn t_6k ?_
    refine wp rfl hC t_3f ?_
    refine WL_nil ?_
    refine W_cond rfl (by decide) (fun hc => by cases hc) (fun _ => ?_)
    refine W_skip ?_
    refine wsr ?_
    refine wp rfl hC t_1 ?_
    refine wp rfl hC t_3e ?_
    refine wp rfl hC t_7d ?_
    refine wp rfl hC t_1 ?_
    refine wp rfl hC t_l ?_
    refine wp rfl hC t_l ?_
    refine wp rfl hC t_3h ?_
    refine wp rfl hC t_4t ?_
    refine wp rfl hC t_4 ?_
    refine WL_nil ?_
    refine W_seq ?_
    refine wsr ?_
    refine wp rfl hC t_1 ?_
    refine wp rfl hC t_28 ?_
    refine WL_nil ?_
    refine W_cond rfl (by decide) (fun hc => by cases hc) (fun _ => ?_)
    refine W_skip ?_
    refine wsr ?_
    refine wp rfl hC t_1 ?_
    refine wp rfl hC t_3e ?_
    refine wp rfl hC (oc_callN hC (.cons (.tmp rfl) (.cons (.tmp rfl) .nil)) (.cons1 t_31 (.cons1 (.free t_0) (.same t_0))) (vopen_c se bse (by omega) k id v n b hid bid bb hMs (by omega)) (glob_cons rfl rfl t_0 glob_nil) t_0 rfl t_q rfl rfl) ?_
    refine wp rfl hC t_1 ?_
    refine wp rfl hC t_l ?_
    refine wp rfl hC t_l ?_
    refine wp rfl hC t_4 ?_
    refine wp rfl hC t_4 ?_
    refine WL_nil ?_
    refine W_seq ?_
    refine wsr ?_
    refine wp rfl hC t_1 ?_
    refine wp rfl hC t_28 ?_
    refine wp rfl hC t_1 ?_
    refine WL_cons hC.fn t_3d ?_
    refine WL_cons hC.fn t_5w ?_
    refine WL_cons hC.fn t_6f ?_
    refine WL_cons hC.fn t_6h ?_
    refine WL_cons hC.fn t_5w ?_
    refine WL_cons hC.fn (.yes rfl rfl (by decide) rfl t_2n) ?_
    refine wp rfl hC t_3f ?_
    refine wp rfl hC t_1 ?_
    refine WL_cons hC.fn t_72 ?_
    refine WL_cons hC.fn t_6s ?_
    refine WL_cons hC.fn t_72 ?_
    refine WL_cons hC.fn t_6s ?_
    refine WL_cons hC.fn t_7c ?_
    refine wp rfl hC t_3f ?_
    refine wp rfl hC t_1 ?_
    refine WL_cons hC.fn t_6w ?_
    refine WL_cons hC.fn t_6r ?_
    refine WL_cons hC.fn t_6w ?_
    refine WL_cons hC.fn t_6r ?_
    refine WL_cons hC.fn t_7c ?_
    refine wp rfl hC t_3f ?_
    refine wp rfl hC t_1 ?_
    refine WL_cons hC.fn t_6p ?_
    refine WL_cons hC.fn t_6n ?_
    refine WL_cons hC.fn t_6p ?_
    refine WL_cons hC.fn t_6n ?_
    refine WL_cons hC.fn t_7c ?_
    refine wp rfl hC t_3f ?_
    refine wp rfl hC t_1 ?_
    refine WL_cons hC.fn t_6t ?_
    refine WL_cons hC.fn t_77 ?_
    refine WL_cons hC.fn t_6t ?_
    refine WL_cons hC.fn t_77 ?_
    refine WL_cons hC.fn (.yes rfl rfl (by decide) rfl (ox_eqI (r := false) hC (.inr rfl) (.tmp rfl) (.tmp rfl) sh_23 kt_23 sg_23 eg_23 hid hid (wf_u8 bid) (wf_u8 bid) (by simp) rfl rfl)) ?_
    refine wp rfl hC t_3f ?_
    refine WL_nil ?_
    refine W_cond rfl (by decide) (fun hc => by cases hc) (fun _ => ?_)
    refine W_skip ?_
    refine W_seq ?_
    refine wsr ?_
    refine wp rfl hC t_38 ?_
    refine wp rfl hC t_3a ?_
    refine wp rfl hC (ox_len hC (.tmp rfl) t_a Tryd.underlying22 (r := (((vseal se k id v n b).length : Nat) : Int)) rfl rfl rfl) ?_
    refine wp rfl hC t_38 ?_
    refine wp rfl hC t_3a ?_
    refine wp rfl hC t_32 ?_
    refine wp rfl hC t_2b ?_
    refine wp rfl hC t_41 ?_
    refine WL_nil ?_
    refine W_cond rfl (by decide) (fun hc => by cases hc) (fun _ => ?_)
    refine W_skip ?_
    refine W_seq ?_
    refine W_seq ?_
    rcases (show y = 0 ∨ y ≠ 0 by omega) with h0 | h0
    ·
      refine W_region ?_
      refine wp rfl hC t_1 ?_
      refine wp rfl hC (ox_cmp hC rfl (.tmp rfl) .cint (r := true) (by simp only [cmpI]; exact decide_eq_true h0) rfl rfl) ?_
      refine WL_nil ?_
      refine W_cond rfl (by decide) (fun _ => ?_) (fun hc => by cases hc)
      refine wsr ?_
      refine wp rfl hC t_3l ?_
      refine wp rfl hC t_4 ?_
      refine WL_nil ?_
      refine W_ret ?_
      exact fin0 (.cons (.tmp rfl) .nil) rfl trivial
    ·
      obtain ⟨hx1, hx2, hx3⟩ := xor_ne (bs.get (b.length + (at_ % 16))) hy h0
      have hvs : sealM (vkey se id) (vnon k n) (hdrL k id v n) b = (vseal se k id v n b) := by unfold vseal; rfl
      have hne := turned (key := (vkey se id)) (nonce := (vnon k n)) (h := (hdrL k id v n)) (t := b) (j := (at_ % 16)) (v := (binI .xor .u8 ((vseal se k id v n b).getD (b.length + (at_ % 16)) 0) y)) (by omega) (by rw [hvs]; exact hx1)
      rw [hvs] at hne
      have hls : ((vseal se k id v n b).set (b.length + (at_ % 16)) (binI .xor .u8 ((vseal se k id v n b).getD (b.length + (at_ % 16)) 0) y)).length = (vseal se k id v n b).length := List.length_set
      have bst : B8 ((vseal se k id v n b).set (b.length + (at_ % 16)) (binI .xor .u8 ((vseal se k id v n b).getD (b.length + (at_ % 16)) 0) y)) := B8_set bs ⟨hx2, hx3⟩
      have hMt : (RightR k v n ((vseal se k id v n b).set (b.length + (at_ % 16)) (binI .xor .u8 ((vseal se k id v n b).getD (b.length + (at_ % 16)) 0) y)).length ∧ k ≠ 1) := by rw [hls]; exact hMs
      refine W_region ?_
      refine wp rfl hC t_1 ?_
      refine wp rfl hC (ox_cmp hC rfl (.tmp rfl) .cint (r := false) (by simp only [cmpI]; exact decide_eq_false h0) rfl rfl) ?_
      refine WL_nil ?_
      refine W_cond rfl (by decide) (fun hc => by cases hc) (fun _ => ?_)
      refine W_skip ?_
      refine wsr ?_
      refine wp rfl hC t_4r ?_
      refine wp rfl hC t_38 ?_
      refine wp rfl hC t_3a ?_
      refine wp rfl hC (ox_append (n' := (vseal se k id v n b).length) (cs' := I .u8 (vseal se k id v n b)) hC (.tmp rfl) (.tmp rfl) t_35 t_a t_r Tryd.underlying22 cells_5 bytes_5 zero_5 rfl (by decide) t_1n t_t (Nat.zero_add _) ((app_I (us := []) rfl).trans rfl) t_n (by omega) rfl rfl) ?_
      refine wp rfl hC t_38 ?_
      refine wp rfl hC (ox_store (bk' := .blk 33 (recX k id v n (.row 4))) hC (.tmp rfl) (.tmp rfl) rfl shp_22 rfl rfl t_2a (put_rz hid) t_f rfl) ?_
      refine WL_nil ?_
      refine wsr ?_
      refine wp rfl hC t_38 ?_
      refine wp rfl hC t_3a ?_
      refine wp rfl hC t_38 ?_
      refine wp rfl hC t_3a ?_
      refine wp rfl hC t_32 ?_
      refine wp rfl hC t_1 ?_
      refine wp rfl hC (oc_conv hC (.tmp rfl) rfl Tryd.underlying3 (r := ((at_ : Nat) : Int)) (i64_conv (by omega)) rfl rfl) ?_
      refine wp rfl hC (oc_div hC (.inr rfl) (.tmp rfl) .cint t_j (r := ((at_ % 16 : Nat) : Int)) (nrem (y := 16)) rfl rfl) ?_
      refine wp rfl hC (oc_bin hC rfl (.tmp rfl) (.tmp rfl) (r := (((b.length + (at_ % 16)) : Nat) : Int)) (nadd (by omega)) rfl rfl) ?_
      refine wp rfl hC (ox_indexS hC (j := (b.length + (at_ % 16))) (.tmp rfl) (.tmp rfl) idx_22 t_w t_d t_33 t_2 rfl rfl) ?_
      refine wp rfl hC t_6l ?_
      refine wp rfl hC t_1 ?_
      refine wp rfl hC (oc_bin hC rfl (.tmp rfl) (.tmp rfl) (r := (binI .xor .u8 ((vseal se k id v n b).getD (b.length + (at_ % 16)) 0) y)) rfl rfl rfl) ?_
      refine wp rfl hC (ox_indexS hC (j := (b.length + (at_ % 16))) (.tmp rfl) (.tmp rfl) idx_22 t_w t_d t_33 t_2 rfl rfl) ?_
      refine wp rfl hC (ox_store (bk' := .row 5 1 (vseal se k id v n b).length (I .u8 ((vseal se k id v n b).set (b.length + (at_ % 16)) (binI .xor .u8 ((vseal se k id v n b).getD (b.length + (at_ % 16)) 0) y)))) hC (.tmp rfl) (.tmp rfl) rfl shp_5 t_h t_18 t_s (put_rowI (by omega)) t_f rfl) ?_
      refine WL_nil ?_
      refine wsr ?_
      refine WL_weak (weak_frzB (j := 1) (i := 19) (us := I .u8 ((vseal se k id v n b).set (b.length + (at_ % 16)) (binI .xor .u8 ((vseal se k id v n b).getD (b.length + (at_ % 16)) 0) y))) rfl (rec_get hid).2.2.2 rfl t_f t_o (by rw [length_I, hls]; exact fun h => h) (inSL_I _)) ?_
      rw [set_rzn hid hls]
      refine wp rfl hC t_1 ?_
      refine wp rfl hC t_3e ?_
      refine wp rfl hC (oc_call hC (.cons (.tmp rfl) (.cons (.tmp rfl) .nil)) (.cons1 t_31 (.cons1 (.free t_0) (.same t_0))) (vopenbad_c se bse (by omega) k id v n b hid bid bb ((vseal se k id v n b).set (b.length + (at_ % 16)) (binI .xor .u8 ((vseal se k id v n b).getD (b.length + (at_ % 16)) 0) y)) bst b.length (by omega) hMt (by omega) hne) (glob_cons rfl rfl t_0 glob_nil) t_0 t_8 rfl rfl) ?_
      refine wp rfl hC t_1 ?_
      refine wp rfl hC t_l ?_
      refine wp rfl hC t_l ?_
      refine wp rfl hC t_4 ?_
      refine wp rfl hC t_4 ?_
      refine WL_nil ?_
      refine wsr ?_
      refine wp rfl hC t_1 ?_
      refine wp rfl hC t_1q ?_
      refine wp rfl hC t_1 ?_
      refine WL_cons hC.fn t_3d ?_
      refine WL_cons hC.fn t_6j ?_
      refine WL_cons hC.fn t_4f ?_
      refine wp rfl hC t_2z ?_
      refine wp rfl hC t_1 ?_
      refine WL_cons hC.fn t_6u ?_
      refine wp rfl hC t_2z ?_
      refine wp rfl hC t_4 ?_
      refine WL_nil ?_
      refine W_ret ?_
      exact fin0 (.cons (.tmp rfl) .nil) rfl trivial
end Go.Proofs.YtfngpppghlbanaaDoor
