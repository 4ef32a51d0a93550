/- Own work, printed by a program of this claim: walks through functions of the program. -/
import Derived.Test.YtfngpppghlbanaaDoorW3
import Derived.Test.YtfngpppghlbanaaDoorProg
import Derived.KernelRfl
set_option linter.unusedSimpArgs false
set_option linter.unusedVariables false
namespace Go.Proofs.YtfngpppghlbanaaDoor
open Go.Sk Go.RowKit
attribute [local simp] AV.inSL AV.inS inSL_I Blk.inS Blk.cs AV.novs AV.novsL novsL_I AV.ren AV.cells AV.one lk tuAV
theorem bld_89 : bldOK Tryd.prog 89 = true := by kernel_rfl
theorem elt_89 : elt Tryd.prog 89 = some (16, false, 1) := by kernel_rfl
theorem idx_27 : idx Tryd.prog 27 = some (some 12, 1) := by kernel_rfl
theorem idx_89 : idx Tryd.prog 89 = some (some 16, 1) := by kernel_rfl
theorem shp_27 : shp Tryd.prog 27 = some (true, 12) := by kernel_rfl
theorem shp_89 : shp Tryd.prog 89 = some (true, 16) := by kernel_rfl
theorem zero_73 : zeroAV Tryd.prog 73 = some (I .u8 (List.replicate 64 0)) := by kernel_rfl
theorem zero_89 : zeroAV Tryd.prog 89 = some (I .u32 (List.replicate 16 0)) := by kernel_rfl
set_option maxRecDepth 20000 in
set_option maxHeartbeats 4000000 in
theorem rotl_c (x k : Int) : FnC Tryd.prog 90 [] [.i .u32 x, .i .i64 k] [] [] (.i .u32 (rotl32 x k)) := by
  refine FnC.introR (N0 := 0) (T := 17) (E := [(0, .i .u32 x), (1, .i .i64 k)]) Tryd.func90 rfl (by decide) mix rfl rfl rfl (by simp) rfl ⟨t_b, t_b, trivial⟩ (by simp) t_10 (fun F n0 X w ρ hC hro => ?_)
  refine wsr ?_
  refine wp rfl hC t_k ?_
  refine WL_nil ?_
  refine wsr ?_
  refine wp rfl hC t_1 ?_
  refine wp rfl hC (oc_conv hC (.tmp rfl) rfl Tryd.underlying61 (r := IntKind.u64.wrap k) rfl rfl rfl) ?_
  refine wp rfl hC (oc_bin hC rfl (.tmp rfl) .cint rfl rfl rfl) ?_
  refine wp rfl hC t_4 ?_
  refine WL_nil ?_
  refine wsr ?_
  refine wp rfl hC t_1 ?_
  refine wp rfl hC t_1 ?_
  refine wp rfl hC (oc_shift hC (.inl rfl) (.tmp rfl) (.tmp rfl) (wrap_u64_nonneg _) rfl rfl rfl) ?_
  refine wp rfl hC t_1 ?_
  refine wp rfl hC t_1 ?_
  refine wp rfl hC (oc_bin hC rfl .cint (.tmp rfl) (r := binI .sub .u64 32 (rotS k)) rfl rfl rfl) ?_
  refine wp rfl hC (oc_shift hC (.inr rfl) (.tmp rfl) (.tmp rfl) (wrap_u64_nonneg _) rfl rfl rfl) ?_
  refine wp rfl hC t_1h ?_
  refine wp rfl hC t_4 ?_
  refine WL_nil ?_
  refine W_ret ?_
  exact fin0 (.cons (.tmp rfl) .nil) t_1u t_0
theorem rol_c (x n : Int) (m : Nat) (hm : n = m) (hx : 0 ≤ x ∧ x < 4294967296) (h0 : 0 < m) (hn : m < 32) : FnC Tryd.prog 90 [] [.i .u32 x, .i .i64 n] [] [] (.i .u32 (rol x m)) := by subst hm; rw [← rotl_rol hx h0 hn]; exact rotl_c x m
set_option maxRecDepth 20000 in
set_option maxHeartbeats 4000000 in
theorem quarter_c (a b c d : Int) : FnC Tryd.prog 67 [] [.i .u32 a, .i .u32 b, .i .u32 c, .i .u32 d] [] [] (.tu [.i .u32 (qa a b c d), .i .u32 (qb a b c d), .i .u32 (qc a b c d), .i .u32 (qd a b c d)]) := by
  refine FnC.introR (N0 := 0) (T := 44) (E := [(0, .i .u32 a), (1, .i .u32 b), (2, .i .u32 c), (3, .i .u32 d)]) Tryd.func67 rfl (by decide) mix rfl rfl rfl (by simp) rfl ⟨t_b, t_b, t_b, t_b, trivial⟩ (by simp) t_10 (fun F n0 X w ρ hC hro => ?_)
  refine wsr ?_
  refine wp rfl hC t_k ?_
  refine wp rfl hC t_k ?_
  refine wp rfl hC t_k ?_
  refine wp rfl hC t_k ?_
  refine WL_nil ?_
  refine wsr ?_
  refine wp rfl hC t_1 ?_
  refine wp rfl hC t_1 ?_
  refine wp rfl hC (oc_bin hC rfl (.tmp rfl) (.tmp rfl) (r := q1 a b) (by unfold q1; exact u32_wrap _) rfl rfl) ?_
  refine wp rfl hC t_4 ?_
  refine WL_nil ?_
  refine wsr ?_
  refine wp rfl hC t_1 ?_
  refine wp rfl hC t_1 ?_
  refine wp rfl hC (oc_bin hC rfl (.tmp rfl) (.tmp rfl) (r := xr d (q1 a b)) rfl rfl rfl) ?_
  refine wp rfl hC (oc_call hC (.cons (.tmp rfl) (.cons .cint .nil)) (.cons1 (.free t_0) (.cons1 (.free t_0) (.same t_0))) (rol_c _ _ 16 rfl (xr_range _ _) (by decide) (by decide)) glob_nil t_0 t_8 rfl rfl) ?_
  rw [show rol (xr d (q1 a b)) 16 = q2 a b d by unfold q2; rfl]
  refine wp rfl hC t_4 ?_
  refine WL_nil ?_
  refine wsr ?_
  refine wp rfl hC t_1 ?_
  refine wp rfl hC t_1 ?_
  refine wp rfl hC (oc_bin hC rfl (.tmp rfl) (.tmp rfl) (r := q3 a b c d) (by unfold q3; exact u32_wrap _) rfl rfl) ?_
  refine wp rfl hC t_4 ?_
  refine WL_nil ?_
  refine wsr ?_
  refine wp rfl hC t_1 ?_
  refine wp rfl hC t_1 ?_
  refine wp rfl hC (oc_bin hC rfl (.tmp rfl) (.tmp rfl) (r := xr b (q3 a b c d)) rfl rfl rfl) ?_
  refine wp rfl hC (oc_call hC (.cons (.tmp rfl) (.cons .cint .nil)) (.cons1 (.free t_0) (.cons1 (.free t_0) (.same t_0))) (rol_c _ _ 12 rfl (xr_range _ _) (by decide) (by decide)) glob_nil t_0 t_8 rfl rfl) ?_
  rw [show rol (xr b (q3 a b c d)) 12 = q4 a b c d by unfold q4; rfl]
  refine wp rfl hC t_4 ?_
  refine WL_nil ?_
  refine wsr ?_
  refine wp rfl hC t_1 ?_
  refine wp rfl hC t_1 ?_
  refine wp rfl hC (oc_bin hC rfl (.tmp rfl) (.tmp rfl) (r := qa a b c d) (by unfold qa; exact u32_wrap _) rfl rfl) ?_
  refine wp rfl hC t_4 ?_
  refine WL_nil ?_
  refine wsr ?_
  refine wp rfl hC t_1 ?_
  refine wp rfl hC t_1 ?_
  refine wp rfl hC (oc_bin hC rfl (.tmp rfl) (.tmp rfl) (r := xr (q2 a b d) (qa a b c d)) rfl rfl rfl) ?_
  refine wp rfl hC (oc_call hC (.cons (.tmp rfl) (.cons .cint .nil)) (.cons1 (.free t_0) (.cons1 (.free t_0) (.same t_0))) (rol_c _ _ 8 rfl (xr_range _ _) (by decide) (by decide)) glob_nil t_0 t_8 rfl rfl) ?_
  rw [show rol (xr (q2 a b d) (qa a b c d)) 8 = qd a b c d by unfold qd; rfl]
  refine wp rfl hC t_4 ?_
  refine WL_nil ?_
  refine wsr ?_
  refine wp rfl hC t_1 ?_
  refine wp rfl hC t_1 ?_
  refine wp rfl hC (oc_bin hC rfl (.tmp rfl) (.tmp rfl) (r := qc a b c d) (by unfold qc; exact u32_wrap _) rfl rfl) ?_
  refine wp rfl hC t_4 ?_
  refine WL_nil ?_
  refine wsr ?_
  refine wp rfl hC t_1 ?_
  refine wp rfl hC t_1 ?_
  refine wp rfl hC (oc_bin hC rfl (.tmp rfl) (.tmp rfl) (r := xr (q4 a b c d) (qc a b c d)) rfl rfl rfl) ?_
  refine wp rfl hC (oc_call hC (.cons (.tmp rfl) (.cons .cint .nil)) (.cons1 (.free t_0) (.cons1 (.free t_0) (.same t_0))) (rol_c _ _ 7 rfl (xr_range _ _) (by decide) (by decide)) glob_nil t_0 t_8 rfl rfl) ?_
  rw [show rol (xr (q4 a b c d) (qc a b c d)) 7 = qb a b c d by unfold qb; rfl]
  refine wp rfl hC t_4 ?_
  refine WL_nil ?_
  refine wsr ?_
  refine wp rfl hC t_1 ?_
  refine wp rfl hC t_1 ?_
  refine wp rfl hC t_1 ?_
  refine wp rfl hC t_1 ?_
  refine wp rfl hC t_4 ?_
  refine wp rfl hC t_4 ?_
  refine wp rfl hC t_4 ?_
  refine wp rfl hC t_4 ?_
  refine WL_nil ?_
  refine W_ret ?_
  exact fin0 (.cons (.tmp rfl) (.cons (.tmp rfl) (.cons (.tmp rfl) (.cons (.tmp rfl) .nil)))) rfl (by simp)
set_option maxRecDepth 20000 in
set_option maxHeartbeats 4000000 in
theorem word_c (b : List Int) (n : Nat) (hn : b.length = n) (h4 : 4 ≤ n) (hb : B8 b) : FnC Tryd.prog 66 [] [.vs n (I .u8 b)] [] [] (.i .u32 (le4 b 0)) := by
  have h0 := hb.get 0
  have h1 := hb.get 1
  have h2 := hb.get 2
  have h3 := hb.get 3
  refine FnC.introR (N0 := 0) (T := 25) (E := [(0, .vs n (I .u8 b))]) Tryd.func66 rfl (by decide) mix rfl rfl rfl (by simp) rfl ⟨t_b, trivial⟩ (by simp) t_10 (fun F n0 X w ρ hC hro => ?_)
  refine wsr ?_
  refine wp rfl hC t_k ?_
  refine WL_nil ?_
  refine W_seq ?_
  refine W_drawD hC ?_
  refine WD_cons (.plain rfl t_1) ?_
  refine WD_cons (.plain rfl (ox_indexS hC (j := 0) (.tmp rfl) .cint idx_22 rfl t_d t_33 t_2 rfl rfl)) ?_
  refine WD_cons (.plain rfl t_6l) ?_
  refine WD_cons (.plain rfl t_4a) ?_
  refine WD_cons (.plain rfl t_1) ?_
  refine WD_cons (.plain rfl (ox_indexS hC (j := 1) (.tmp rfl) .cint idx_22 rfl t_d t_33 t_2 rfl rfl)) ?_
  refine WD_cons (.plain rfl t_6l) ?_
  refine WD_cons (.plain rfl t_4a) ?_
  refine WD_cons (.plain rfl (oc_shift hC (.inl rfl) (.tmp rfl) .cint t_j (shl_n (n := 8) rfl (by decide)) rfl rfl)) ?_
  refine WD_cons (.plain rfl t_1h) ?_
  refine WD_cons (.plain rfl t_1) ?_
  refine WD_cons (.plain rfl (ox_indexS hC (j := 2) (.tmp rfl) .cint idx_22 rfl t_d t_33 t_2 rfl rfl)) ?_
  refine WD_cons (.plain rfl t_6l) ?_
  refine WD_cons (.plain rfl t_4a) ?_
  refine WD_cons (.plain rfl (oc_shift hC (.inl rfl) (.tmp rfl) .cint t_j (shl_n (n := 16) rfl (by decide)) rfl rfl)) ?_
  refine WD_cons (.plain rfl t_1h) ?_
  refine WD_cons (.plain rfl t_1) ?_
  refine WD_cons (.plain rfl (ox_indexS hC (j := 3) (.tmp rfl) .cint idx_22 rfl t_d t_33 t_2 rfl rfl)) ?_
  refine WD_cons (.plain rfl t_6l) ?_
  refine WD_cons (.plain rfl t_4a) ?_
  refine WD_cons (.plain rfl (oc_shift hC (.inl rfl) (.tmp rfl) .cint t_j (shl_n (n := 24) rfl (by decide)) rfl rfl)) ?_
  refine WD_cons (.plain rfl t_1h) ?_
  refine WD_cons (.plain rfl t_4) ?_
  refine WD_nil t_x ?_
  refine W_ret ?_
  exact fin0 (.cons (.tmp rfl) .nil) (congrArg (AV.i .u32) (by unfold le4; exact le_or h0 h1 h2 h3)) t_0
set_option maxRecDepth 20000 in
set_option maxHeartbeats 4000000 in
theorem block_c (key nonce : List Int) (n : Int) (hk : key.length = 32) (hnc : nonce.length = 12) (hk8 : B8 key) (hc8 : B8 nonce) (hn : 0 ≤ n ∧ n < 4294967296) : FnC Tryd.prog 48 [] [.ag (I .u8 key), .i .u32 n, .ag (I .u8 nonce)] [] [] (.ag (I .u8 (blkM key n nonce))) := by
  have hlF := length_firstM key n nonce
  have hwF := W32_first hk8 hc8 hn
  refine FnC.introR (N0 := 0) (T := 126) (E := [(0, .ag (I .u8 key)), (1, .i .u32 n), (2, .ag (I .u8 nonce))]) Tryd.func48 rfl (by decide) mix rfl rfl rfl (by simp) rfl ⟨t_b, t_b, t_b, trivial⟩ (by simp) t_10 (fun F n0 X w ρ hC hro => ?_)
  refine wsr ?_
  refine wp rfl hC t_3j ?_
  refine wp rfl hC t_3j ?_
  refine wp rfl hC (ox_alloc hC zero_73 rfl rfl rfl) ?_
  refine WL_nil ?_
  refine wsr ?_
  refine wp rfl hC (ox_build hC (.cons .cint (.cons .cint (.cons .cint (.cons .cint .nil)))) zero_89 bld_89 rfl rfl rfl rfl) ?_
  refine wp rfl hC (ox_alloc hC zero_89 rfl rfl rfl) ?_
  refine wp rfl hC (ox_store hC (.tmp rfl) (.tmp rfl) rfl shp_89 t_h t_18 t_s (put_all rfl) t_f rfl) ?_
  refine WL_nil ?_
  refine W_seq ?_
  refine wsr ?_
  refine wp rfl hC t_1l ?_
  refine WL_nil ?_
  refine W_blk ?_
  refine W_loopW (fun (ζ : Nat) => ⟨4, [(1, .i .u32 n), (3, .p 0 0), (5, .p 1 0), (6, .p 2 0), (7, .p 3 0), (22, .i .i64 ζ)], [(0, .blk 25 (I .u8 key)), (1, .blk 27 (I .u8 nonce)), (2, .blk 73 (I .u8 (List.replicate 64 0))), (3, .blk 89 (I .u32 (fpre key ζ)))]⟩) (fun ζ => ζ ≤ 8) (fun ζ => 8 - ζ) (0) (by simp) (weak (fun k => k) (.cons rfl t_2y trivial (.cons rfl t_5 t_6 (.cons rfl t_5 t_6 (.cons rfl t_5 t_6 (.cons rfl t_5 t_6 (.cons rfl rfl trivial .nil)))))) (.cons rfl t_g rfl t_0 (.cons rfl t_g rfl t_0 (.cons rfl t_g rfl t_0 (.cons rfl (by rw [fpre_zero]; rfl) rfl t_0 .nil)))) rfl rfl rfl) ?_
  intro i hR
  replace hR : i ≤ 8 := hR
  first | show W _ _ _ ⟨4, [(1, .i .u32 n), (3, .p 0 0), (5, .p 1 0), (6, .p 2 0), (7, .p 3 0), (22, .i .i64 i)], [(0, .blk 25 (I .u8 key)), (1, .blk 27 (I .u8 nonce)), (2, .blk 73 (I .u8 (List.replicate 64 0))), (3, .blk 89 (I .u32 (fpre key i)))]⟩ | skip
  have hlp := length_fpre (key := key) (i := i) (by omega)
  refine wsr ?_
  refine wp rfl hC t_11 ?_
  refine WL_nil ?_
  refine W_seq ?_
  refine W_cond rfl (by decide) (fun hc => ?_) (fun hc => ?_)
  ·
    replace hc := lss_t hc
    
    refine W_skip ?_
    refine W_seq ?_
    refine W_blk ?_
    refine wsr ?_
    refine wp rfl hC t_1 ?_
    refine wp rfl hC t_4 ?_
    refine WL_nil ?_
    refine W_region ?_
    refine wp rfl hC t_1 ?_
    refine wp rfl hC (oc_bin hC rfl .cint (.tmp rfl) t_i rfl rfl) ?_
    refine wp rfl hC t_1 ?_
    refine wp rfl hC t_43 ?_
    refine wp rfl hC (ox_cutA hC (.tmp rfl) (.yes (n := 4 * i) (.tmp rfl) t_w) .no idx_25 t_2 t_2 t_3n t_1b rfl rfl) ?_
    refine wp rfl hC (oc_call hC (.cons (.tmp rfl) .nil) (.cons1 t_31 (.same t_0)) (word_c _ _ t_7 (by omega) (B8_cut hk8 _ _)) glob_nil t_0 t_8 rfl rfl) ?_
    rw [le4_cut (by omega), show 0 + 4 * i * 1 = 4 * i by omega]
    refine wp rfl hC (ox_indexA hC (j := 4 + i) (.tmp rfl) (.tmp rfl) idx_89 t_w t_2 t_d t_34 rfl rfl) ?_
    refine wp rfl hC t_7e ?_
    refine WL_nil ?_
    refine W_region ?_
    refine wp rfl hC t_36 ?_
    refine wp rfl hC t_1 ?_
    refine WL_nil ?_
    exact ⟨(i + 1), (by omega), (weak (fun k => k) (.cons rfl t_2y trivial (.cons rfl t_5 t_6 (.cons rfl t_5 t_6 (.cons rfl t_5 t_6 (.cons rfl t_5 t_6 (.cons rfl t_2y trivial .nil)))))) (.cons rfl t_g rfl t_0 (.cons rfl t_g rfl t_0 (.cons rfl t_g rfl t_0 (.cons rfl (renBlk (fpre_succ (by omega)).symm) rfl t_0 .nil)))) rfl rfl rfl), (by omega)⟩
  ·
    replace hc := lss_f hc
    obtain rfl : i = 8 := by omega
    have hlp := length_fpre (key := key) (i := 8) (by omega)
    refine W_exit ?_
    refine wsr ?_
    refine wp rfl hC t_1 ?_
    refine wp rfl hC (ox_indexA hC (j := 12) (.tmp rfl) .cint idx_89 rfl t_2 t_d t_34 rfl rfl) ?_
    refine wp rfl hC (ox_store hC (.tmp rfl) (.tmp rfl) rfl shp_63 t_h t_18 t_s (put_blkI (by omega)) t_f rfl) ?_
    refine WL_nil ?_
    refine W_seq ?_
    refine wsr ?_
    refine wp rfl hC t_1l ?_
    refine WL_nil ?_
    refine W_blk ?_
    refine W_loopW (fun (ζ : Nat) => ⟨4, [(1, .i .u32 n), (3, .p 0 0), (5, .p 1 0), (6, .p 2 0), (7, .p 3 0), (35, .i .i64 ζ)], [(0, .blk 25 (I .u8 key)), (1, .blk 27 (I .u8 nonce)), (2, .blk 73 (I .u8 (List.replicate 64 0))), (3, .blk 89 (I .u32 (gpre key n nonce ζ)))]⟩) (fun ζ => ζ ≤ 3) (fun ζ => 3 - ζ) (0) (by simp) (weak (fun k => k) (.cons rfl t_2y trivial (.cons rfl t_5 t_6 (.cons rfl t_5 t_6 (.cons rfl t_5 t_6 (.cons rfl t_5 t_6 (.cons rfl rfl trivial .nil)))))) (.cons rfl t_g rfl t_0 (.cons rfl t_g rfl t_0 (.cons rfl t_g rfl t_0 (.cons rfl (renBlk gpre_zero.symm) rfl t_0 .nil)))) rfl rfl rfl) ?_
    intro j hR
    replace hR : j ≤ 3 := hR
    first | show W _ _ _ ⟨4, [(1, .i .u32 n), (3, .p 0 0), (5, .p 1 0), (6, .p 2 0), (7, .p 3 0), (35, .i .i64 j)], [(0, .blk 25 (I .u8 key)), (1, .blk 27 (I .u8 nonce)), (2, .blk 73 (I .u8 (List.replicate 64 0))), (3, .blk 89 (I .u32 (gpre key n nonce j)))]⟩ | skip
    have hlg := length_gpre (key := key) (n := n) (nonce := nonce) (j := j) (by omega)
    refine wsr ?_
    refine wp rfl hC t_11 ?_
    refine WL_nil ?_
    refine W_seq ?_
    refine W_cond rfl (by decide) (fun hc => ?_) (fun hc => ?_)
    ·
      replace hc := lss_t hc
      
      refine W_skip ?_
      refine W_seq ?_
      refine W_blk ?_
      refine wsr ?_
      refine wp rfl hC t_1 ?_
      refine wp rfl hC t_4 ?_
      refine WL_nil ?_
      refine W_region ?_
      refine wp rfl hC t_1 ?_
      refine wp rfl hC (oc_bin hC rfl .cint (.tmp rfl) t_i rfl rfl) ?_
      refine wp rfl hC t_1 ?_
      refine wp rfl hC t_43 ?_
      refine wp rfl hC (ox_cutA hC (.tmp rfl) (.yes (n := 4 * j) (.tmp rfl) t_w) .no idx_27 t_2 t_2 t_3n t_1b rfl rfl) ?_
      refine wp rfl hC (oc_call hC (.cons (.tmp rfl) .nil) (.cons1 t_31 (.same t_0)) (word_c _ _ t_7 (by omega) (B8_cut hc8 _ _)) glob_nil t_0 t_8 rfl rfl) ?_
      rw [le4_cut (by omega), show 0 + 4 * j * 1 = 4 * j by omega]
      refine wp rfl hC (ox_indexA hC (j := 13 + j) (.tmp rfl) (.tmp rfl) idx_89 t_w t_2 t_d t_34 rfl rfl) ?_
      refine wp rfl hC t_7e ?_
      refine WL_nil ?_
      refine W_region ?_
      refine wp rfl hC t_36 ?_
      refine wp rfl hC t_1 ?_
      refine WL_nil ?_
      exact ⟨(j + 1), (by omega), (weak (fun k => k) (.cons rfl t_2y trivial (.cons rfl t_5 t_6 (.cons rfl t_5 t_6 (.cons rfl t_5 t_6 (.cons rfl t_5 t_6 (.cons rfl t_2y trivial .nil)))))) (.cons rfl t_g rfl t_0 (.cons rfl t_g rfl t_0 (.cons rfl t_g rfl t_0 (.cons rfl (renBlk (gpre_succ (by omega)).symm) rfl t_0 .nil)))) rfl rfl rfl), (by omega)⟩
    ·
      replace hc := lss_f hc
      obtain rfl : j = 3 := by omega
      rw [gpre_end]
      refine W_exit ?_
      refine wsr ?_
      refine wp rfl hC (oc_load hC (.tmp rfl) t_3 shp_89 (by exact (unit_all hlF)) rfl rfl) ?_
      refine wp rfl hC (ox_alloc hC zero_89 rfl rfl rfl) ?_
      refine wp rfl hC (ox_store hC (.tmp rfl) (.tmp rfl) rfl shp_89 t_h (by rw [cells_ag, length_I, hlF]) t_s (put_allI (by rw [hlF]; rfl)) t_f rfl) ?_
      refine WL_nil ?_
      refine W_seq ?_
      refine wsr ?_
      refine wp rfl hC t_1l ?_
      refine WL_nil ?_
      refine W_blk ?_
      refine W_loopW (fun (ζ : Nat) => ⟨5, [(1, .i .u32 n), (3, .p 0 0), (5, .p 1 0), (6, .p 2 0), (7, .p 3 0), (10, .p 4 0), (47, .i .i64 ζ)], [(0, .blk 25 (I .u8 key)), (1, .blk 27 (I .u8 nonce)), (2, .blk 73 (I .u8 (List.replicate 64 0))), (3, .blk 89 (I .u32 (firstM key n nonce))), (4, .blk 89 (I .u32 (cha (firstM key n nonce) ζ)))]⟩) (fun ζ => ζ ≤ 10) (fun ζ => 10 - ζ) (0) (by simp) (weak (fun k => k) (.cons rfl t_2y trivial (.cons rfl t_5 t_6 (.cons rfl t_5 t_6 (.cons rfl t_5 t_6 (.cons rfl t_5 t_6 (.cons rfl t_5 t_6 (.cons rfl rfl trivial .nil))))))) (.cons rfl t_g rfl t_0 (.cons rfl t_g rfl t_0 (.cons rfl t_g rfl t_0 (.cons rfl t_g rfl t_0 (.cons rfl (renBlk cha_zero) rfl t_0 .nil))))) rfl rfl rfl) ?_
      intro k hR
      replace hR : k ≤ 10 := hR
      first | show W _ _ _ ⟨5, [(1, .i .u32 n), (3, .p 0 0), (5, .p 1 0), (6, .p 2 0), (7, .p 3 0), (10, .p 4 0), (47, .i .i64 k)], [(0, .blk 25 (I .u8 key)), (1, .blk 27 (I .u8 nonce)), (2, .blk 73 (I .u8 (List.replicate 64 0))), (3, .blk 89 (I .u32 (firstM key n nonce))), (4, .blk 89 (I .u32 (cha (firstM key n nonce) k)))]⟩ | skip
      refine wsr ?_
      refine wp rfl hC t_11 ?_
      refine WL_nil ?_
      refine W_seq ?_
      refine W_cond rfl (by decide) (fun hc => ?_) (fun hc => ?_)
      ·
        replace hc := lss_t hc
        
        refine W_skip ?_
        refine W_seq ?_
        refine W_blk ?_
        refine wsr ?_
        refine wp rfl hC t_1l ?_
        refine WL_nil ?_
        refine W_blk ?_
        refine W_loopW (fun (ζ : Nat) => ⟨5, [(1, .i .u32 n), (3, .p 0 0), (5, .p 1 0), (6, .p 2 0), (7, .p 3 0), (10, .p 4 0), (47, .i .i64 k), (49, .i .i64 ζ)], [(0, .blk 25 (I .u8 key)), (1, .blk 27 (I .u8 nonce)), (2, .blk 73 (I .u8 (List.replicate 64 0))), (3, .blk 89 (I .u32 (firstM key n nonce))), (4, .blk 89 (I .u32 (qs (cha (firstM key n nonce) k) ζ)))]⟩) (fun ζ => ζ ≤ 8) (fun ζ => 8 - ζ) (0) (by simp) (weak (fun k => k) (.cons rfl t_2y trivial (.cons rfl t_5 t_6 (.cons rfl t_5 t_6 (.cons rfl t_5 t_6 (.cons rfl t_5 t_6 (.cons rfl t_5 t_6 (.cons rfl t_2y trivial (.cons rfl rfl trivial .nil)))))))) (.cons rfl t_g rfl t_0 (.cons rfl t_g rfl t_0 (.cons rfl t_g rfl t_0 (.cons rfl t_g rfl t_0 (.cons rfl (renBlk qs_zero) rfl t_0 .nil))))) rfl rfl rfl) ?_
        intro i hR
        replace hR : i ≤ 8 := hR
        first | show W _ _ _ ⟨5, [(1, .i .u32 n), (3, .p 0 0), (5, .p 1 0), (6, .p 2 0), (7, .p 3 0), (10, .p 4 0), (47, .i .i64 k), (49, .i .i64 i)], [(0, .blk 25 (I .u8 key)), (1, .blk 27 (I .u8 nonce)), (2, .blk 73 (I .u8 (List.replicate 64 0))), (3, .blk 89 (I .u32 (firstM key n nonce))), (4, .blk 89 (I .u32 (qs (cha (firstM key n nonce) k) i)))]⟩ | skip
        have hlq : (qs (cha (firstM key n nonce) k) i).length = 16 := (length_qs _ _).trans ((length_cha _ _).trans hlF)
        have hwq := W32_qs (W32_cha hwF k) i
        refine wsr ?_
        refine wp rfl hC t_11 ?_
        refine WL_nil ?_
        refine W_seq ?_
        refine W_cond rfl (by decide) (fun hc => ?_) (fun hc => ?_)
        ·
          replace hc := lss_t hc
          
          refine W_skip ?_
          refine W_seq ?_
          refine W_blk ?_
          refine wsr ?_
          refine wp rfl hC t_1 ?_
          refine wp rfl hC t_4 ?_
          refine WL_nil ?_
          refine wsr ?_
          refine wp rfl hC t_1 ?_
          refine wp rfl hC (oc_div hC (.inr rfl) (.tmp rfl) .cint t_j (r := ((i % 4 : Nat) : Int)) (nrem (y := 4)) rfl rfl) ?_
          refine wp rfl hC t_1 ?_
          refine wp rfl hC (oc_div hC (.inl rfl) (.tmp rfl) .cint t_j (r := ((i / 4 : Nat) : Int)) (nquo (y := 4) (by omega) (by decide)) rfl rfl) ?_
          refine wp rfl hC t_4 ?_
          refine wp rfl hC t_4 ?_
          refine WL_nil ?_
          refine wsr ?_
          refine wp rfl hC t_1 ?_
          refine wp rfl hC t_1 ?_
          refine wp rfl hC (oc_bin hC rfl (.tmp rfl) (.tmp rfl) (r := ((i % 4 + i / 4 : Nat) : Int)) (nadd (by omega)) rfl rfl) ?_
          refine wp rfl hC (oc_div hC (.inr rfl) (.tmp rfl) .cint t_j (r := (((i % 4 + i / 4) % 4 : Nat) : Int)) (nrem (y := 4)) rfl rfl) ?_
          refine wp rfl hC (oc_bin hC rfl .cint (.tmp rfl) (r := ((4 + (i % 4 + i / 4) % 4 : Nat) : Int)) (nadd (x := 4) (by omega)) rfl rfl) ?_
          refine wp rfl hC t_1 ?_
          refine wp rfl hC t_1 ?_
          refine wp rfl hC (oc_bin hC rfl .cint (.tmp rfl) (r := ((2 * (i / 4) : Nat) : Int)) (nmul (x := 2) (by omega)) rfl rfl) ?_
          refine wp rfl hC (oc_bin hC rfl (.tmp rfl) (.tmp rfl) (r := ((i % 4 + 2 * (i / 4) : Nat) : Int)) (nadd (by omega)) rfl rfl) ?_
          refine wp rfl hC (oc_div hC (.inr rfl) (.tmp rfl) .cint t_j (r := (((i % 4 + 2 * (i / 4)) % 4 : Nat) : Int)) (nrem (y := 4)) rfl rfl) ?_
          refine wp rfl hC (oc_bin hC rfl .cint (.tmp rfl) (r := ((8 + (i % 4 + 2 * (i / 4)) % 4 : Nat) : Int)) (nadd (x := 8) (by omega)) rfl rfl) ?_
          refine wp rfl hC t_1 ?_
          refine wp rfl hC t_1 ?_
          refine wp rfl hC (oc_bin hC rfl .cint (.tmp rfl) (r := ((3 * (i / 4) : Nat) : Int)) (nmul (x := 3) (by omega)) rfl rfl) ?_
          refine wp rfl hC (oc_bin hC rfl (.tmp rfl) (.tmp rfl) (r := ((i % 4 + 3 * (i / 4) : Nat) : Int)) (nadd (by omega)) rfl rfl) ?_
          refine wp rfl hC (oc_div hC (.inr rfl) (.tmp rfl) .cint t_j (r := (((i % 4 + 3 * (i / 4)) % 4 : Nat) : Int)) (nrem (y := 4)) rfl rfl) ?_
          refine wp rfl hC (oc_bin hC rfl .cint (.tmp rfl) (r := ((12 + (i % 4 + 3 * (i / 4)) % 4 : Nat) : Int)) (nadd (x := 12) (by omega)) rfl rfl) ?_
          refine wp rfl hC t_4 ?_
          refine wp rfl hC t_4 ?_
          refine wp rfl hC t_4 ?_
          refine WL_nil ?_
          refine W_drawD hC ?_
          refine WD_cons (.plain rfl t_1) ?_
          refine WD_cons (.plain rfl t_1) ?_
          refine WD_cons (.plain rfl t_1) ?_
          refine WD_cons (.plain rfl t_1) ?_
          refine WD_cons (.plain rfl t_1) ?_
          refine WD_cons (.plain rfl t_70) ?_
          refine WD_cons (.plain rfl t_6z) ?_
          refine WD_cons (.plain rfl t_1) ?_
          refine WD_cons (.plain rfl t_70) ?_
          refine WD_cons (.plain rfl t_6z) ?_
          refine WD_cons (.plain rfl t_1) ?_
          refine WD_cons (.plain rfl t_70) ?_
          refine WD_cons (.plain rfl t_6z) ?_
          refine WD_cons (.plain rfl t_1) ?_
          refine WD_cons (.plain rfl t_70) ?_
          refine WD_cons (.plain rfl t_6z) ?_
          refine WD_cons (.plain rfl (oc_call hC (.cons (.tmp rfl) (.cons (.tmp rfl) (.cons (.tmp rfl) (.cons (.tmp rfl) .nil)))) (.cons1 (.free t_0) (.cons1 (.free t_0) (.cons1 (.free t_0) (.cons1 (.free t_0) (.same t_0))))) (quarter_c _ _ _ _) glob_nil t_0 t_8 rfl rfl)) ?_
          refine WD_cons (.plain rfl t_1) ?_
          refine WD_cons (.plain rfl t_l) ?_
          refine WD_cons (.plain rfl t_l) ?_
          refine WD_cons (.plain rfl t_l) ?_
          refine WD_cons (.plain rfl t_l) ?_
          refine WD_cons (.plain rfl t_70) ?_
          refine WD_cons (.plain rfl t_5b) ?_
          refine WD_cons (.plain rfl t_70) ?_
          refine WD_cons (.plain rfl t_5b) ?_
          refine WD_cons (.plain rfl t_70) ?_
          refine WD_cons (.plain rfl t_5b) ?_
          refine WD_cons (.plain rfl t_70) ?_
          refine WD_cons (.plain rfl t_5b) ?_
          refine WD_nil t_x ?_
          refine W_region ?_
          refine wp rfl hC t_36 ?_
          refine wp rfl hC t_1 ?_
          refine WL_nil ?_
          exact ⟨(i + 1), (by omega), (weak (fun k => k) (.cons rfl t_2y trivial (.cons rfl t_5 t_6 (.cons rfl t_5 t_6 (.cons rfl t_5 t_6 (.cons rfl t_5 t_6 (.cons rfl t_5 t_6 (.cons rfl t_2y trivial (.cons rfl t_2y trivial .nil)))))))) (.cons rfl t_g rfl t_0 (.cons rfl t_g rfl t_0 (.cons rfl t_g rfl t_0 (.cons rfl t_g rfl t_0 (.cons rfl (renBlk (qs_succ.symm.trans (by rw [← quarter_of rfl rfl rfl rfl]))) rfl t_0 .nil))))) rfl rfl rfl), (by omega)⟩
        ·
          replace hc := lss_f hc
          obtain rfl : i = 8 := by omega
          refine W_exit ?_
          refine W_region ?_
          refine wp rfl hC t_36 ?_
          refine wp rfl hC t_1 ?_
          refine WL_nil ?_
          exact ⟨(k + 1), (by omega), (weak (fun k => k) (.cons rfl t_2y trivial (.cons rfl t_5 t_6 (.cons rfl t_5 t_6 (.cons rfl t_5 t_6 (.cons rfl t_5 t_6 (.cons rfl t_5 t_6 (.cons rfl t_2y trivial .nil))))))) (.cons rfl t_g rfl t_0 (.cons rfl t_g rfl t_0 (.cons rfl t_g rfl t_0 (.cons rfl t_g rfl t_0 (.cons rfl (renBlk cha_succ.symm) rfl t_0 .nil))))) rfl rfl rfl), (by omega)⟩
      ·
        replace hc := lss_f hc
        obtain rfl : k = 10 := by omega
        have hl10 : (cha (firstM key n nonce) 10).length = 16 := (length_cha _ _).trans hlF
        refine W_exit ?_
        refine wsr ?_
        refine wp rfl hC (ox_alloc (cs' := I .u8 (List.replicate 64 0)) hC zero_73 rfl rfl rfl) ?_
        refine WL_nil ?_
        refine W_seq ?_
        refine wsr ?_
        refine wp rfl hC (oc_load hC (.tmp rfl) t_3 shp_89 (by exact (unit_all hl10)) rfl rfl) ?_
        refine wp rfl hC t_1l ?_
        refine WL_nil ?_
        refine W_blk ?_
        refine W_loopW (fun (ζ : Nat) => ⟨6, [(1, .i .u32 n), (3, .p 0 0), (5, .p 1 0), (6, .p 2 0), (7, .p 3 0), (10, .p 4 0), (17, .p 5 0), (101, .ag (I .u32 (cha (firstM key n nonce) 10))), (102, .i .i64 ζ)], [(0, .blk 25 (I .u8 key)), (1, .blk 27 (I .u8 nonce)), (2, .blk 73 (I .u8 (List.replicate 64 0))), (3, .blk 89 (I .u32 (firstM key n nonce))), (4, .blk 89 (I .u32 (cha (firstM key n nonce) 10))), (5, .blk 73 (I .u8 (outP5 (sumL (cha (firstM key n nonce) 10) (firstM key n nonce)) (4 * ζ))))]⟩) (fun ζ => ζ ≤ 16) (fun ζ => 16 - ζ) (0) (by simp) (weak (fun k => k) (.cons rfl t_2y trivial (.cons rfl t_5 t_6 (.cons rfl t_5 t_6 (.cons rfl t_5 t_6 (.cons rfl t_5 t_6 (.cons rfl t_5 t_6 (.cons rfl t_5 t_6 (.cons rfl ren_agI t_0 (.cons rfl rfl trivial .nil))))))))) (.cons rfl t_g rfl t_0 (.cons rfl t_g rfl t_0 (.cons rfl t_g rfl t_0 (.cons rfl t_g rfl t_0 (.cons rfl t_g rfl t_0 (.cons rfl (renBlk outP5_zero) rfl t_0 .nil)))))) rfl rfl rfl) ?_
        intro i hR
        replace hR : i ≤ 16 := hR
        first | show W _ _ _ ⟨6, [(1, .i .u32 n), (3, .p 0 0), (5, .p 1 0), (6, .p 2 0), (7, .p 3 0), (10, .p 4 0), (17, .p 5 0), (101, .ag (I .u32 (cha (firstM key n nonce) 10))), (102, .i .i64 i)], [(0, .blk 25 (I .u8 key)), (1, .blk 27 (I .u8 nonce)), (2, .blk 73 (I .u8 (List.replicate 64 0))), (3, .blk 89 (I .u32 (firstM key n nonce))), (4, .blk 89 (I .u32 (cha (firstM key n nonce) 10))), (5, .blk 73 (I .u8 (outP5 (sumL (cha (firstM key n nonce) 10) (firstM key n nonce)) (4 * i))))]⟩ | skip
        refine wsr ?_
        refine wp rfl hC t_11 ?_
        refine WL_nil ?_
        refine W_seq ?_
        refine W_cond rfl (by decide) (fun hc => ?_) (fun hc => ?_)
        ·
          replace hc := lss_t hc
          
          refine W_skip ?_
          refine W_seq ?_
          refine W_blk ?_
          refine wsr ?_
          refine wp rfl hC t_1 ?_
          refine wp rfl hC (ox_index hC  (.tmp rfl) (.tmp rfl) elt_89 t_u t_2 t_d t_2 t_39 rfl rfl) ?_
          refine wp rfl hC t_4 ?_
          refine wp rfl hC t_4 ?_
          refine WL_nil ?_
          refine wsr ?_
          refine wp rfl hC t_1l ?_
          refine WL_nil ?_
          refine W_blk ?_
          refine W_loopW (fun (ζ : Nat) => ⟨6, [(1, .i .u32 n), (3, .p 0 0), (5, .p 1 0), (6, .p 2 0), (7, .p 3 0), (10, .p 4 0), (17, .p 5 0), (18, .i .i64 i), (19, .i .u32 ((cha (firstM key n nonce) 10).getD i 0)), (101, .ag (I .u32 (cha (firstM key n nonce) 10))), (102, .i .i64 i), (106, .i .i64 ζ)], [(0, .blk 25 (I .u8 key)), (1, .blk 27 (I .u8 nonce)), (2, .blk 73 (I .u8 (List.replicate 64 0))), (3, .blk 89 (I .u32 (firstM key n nonce))), (4, .blk 89 (I .u32 (cha (firstM key n nonce) 10))), (5, .blk 73 (I .u8 (outP5 (sumL (cha (firstM key n nonce) 10) (firstM key n nonce)) (4 * i + ζ))))]⟩) (fun ζ => ζ ≤ 4) (fun ζ => 4 - ζ) (0) (by simp) (weak (fun k => k) (.cons rfl t_2y trivial (.cons rfl t_5 t_6 (.cons rfl t_5 t_6 (.cons rfl t_5 t_6 (.cons rfl t_5 t_6 (.cons rfl t_5 t_6 (.cons rfl t_5 t_6 (.cons rfl t_2y trivial (.cons rfl t_2y trivial (.cons rfl ren_agI t_0 (.cons rfl t_2y trivial (.cons rfl rfl trivial .nil)))))))))))) (.cons rfl t_g rfl t_0 (.cons rfl t_g rfl t_0 (.cons rfl t_g rfl t_0 (.cons rfl t_g rfl t_0 (.cons rfl t_g rfl t_0 (.cons rfl (renBlk rfl) rfl t_0 .nil)))))) rfl rfl rfl) ?_
          intro k hR
          replace hR : k ≤ 4 := hR
          first | show W _ _ _ ⟨6, [(1, .i .u32 n), (3, .p 0 0), (5, .p 1 0), (6, .p 2 0), (7, .p 3 0), (10, .p 4 0), (17, .p 5 0), (18, .i .i64 i), (19, .i .u32 ((cha (firstM key n nonce) 10).getD i 0)), (101, .ag (I .u32 (cha (firstM key n nonce) 10))), (102, .i .i64 i), (106, .i .i64 k)], [(0, .blk 25 (I .u8 key)), (1, .blk 27 (I .u8 nonce)), (2, .blk 73 (I .u8 (List.replicate 64 0))), (3, .blk 89 (I .u32 (firstM key n nonce))), (4, .blk 89 (I .u32 (cha (firstM key n nonce) 10))), (5, .blk 73 (I .u8 (outP5 (sumL (cha (firstM key n nonce) 10) (firstM key n nonce)) (4 * i + k))))]⟩ | skip
          have hlo := length_outP5 (s := sumL (cha (firstM key n nonce) 10) (firstM key n nonce)) (t := 4 * i + k) (by omega)
          refine wsr ?_
          refine wp rfl hC t_11 ?_
          refine WL_nil ?_
          refine W_seq ?_
          refine W_cond rfl (by decide) (fun hc => ?_) (fun hc => ?_)
          ·
            replace hc := lss_t hc
            
            refine W_skip ?_
            refine W_seq ?_
            refine W_blk ?_
            refine wsr ?_
            refine wp rfl hC t_1 ?_
            refine wp rfl hC t_4 ?_
            refine WL_nil ?_
            refine W_region ?_
            refine wp rfl hC t_1 ?_
            refine wp rfl hC t_43 ?_
            refine wp rfl hC t_1 ?_
            refine wp rfl hC t_3p ?_
            refine wp rfl hC t_1 ?_
            refine wp rfl hC t_1 ?_
            refine wp rfl hC t_70 ?_
            refine wp rfl hC t_6z ?_
            refine wp rfl hC t_21 ?_
            refine wp rfl hC t_1 ?_
            refine wp rfl hC t_43 ?_
            refine wp rfl hC (oc_shift hC (.inr rfl) (.tmp rfl) (.tmp rfl) t_j rfl rfl rfl) ?_
            refine wp rfl hC (oc_conv hC (.tmp rfl) rfl Tryd.underlying5 (r := byteL ((sumL (cha (firstM key n nonce) 10) (firstM key n nonce)).getD i 0) k) (by rw [sum_get (by omega)]; exact le_byte (by omega)) rfl rfl) ?_
            refine wp rfl hC (ox_indexA hC (j := 4 * i + k) (.tmp rfl) (.tmp rfl) idx_73 t_w t_2 t_d t_34 rfl rfl) ?_
            refine wp rfl hC (ox_store hC (.tmp rfl) (.tmp rfl) rfl shp_5 t_h t_18 t_s t_4c t_f rfl) ?_
            refine WL_nil ?_
            refine W_region ?_
            refine wp rfl hC t_36 ?_
            refine wp rfl hC t_1 ?_
            refine WL_nil ?_
            exact ⟨(k + 1), (by omega), (weak (fun k => k) (.cons rfl t_2y trivial (.cons rfl t_5 t_6 (.cons rfl t_5 t_6 (.cons rfl t_5 t_6 (.cons rfl t_5 t_6 (.cons rfl t_5 t_6 (.cons rfl t_5 t_6 (.cons rfl t_2y trivial (.cons rfl t_2y trivial (.cons rfl t_30 t_0 (.cons rfl t_2y trivial (.cons rfl t_2y trivial .nil)))))))))))) (.cons rfl t_g rfl t_0 (.cons rfl t_g rfl t_0 (.cons rfl t_g rfl t_0 (.cons rfl t_g rfl t_0 (.cons rfl t_g rfl t_0 (.cons rfl (renBlk (outP5_succ (by omega) (by omega)).symm) rfl t_0 .nil)))))) rfl rfl rfl), (by omega)⟩
          ·
            replace hc := lss_f hc
            obtain rfl : k = 4 := by omega
            refine W_exit ?_
            refine W_region ?_
            refine wp rfl hC t_36 ?_
            refine wp rfl hC t_1 ?_
            refine WL_nil ?_
            exact ⟨(i + 1), (by omega), (weak (fun k => k) (.cons rfl t_2y trivial (.cons rfl t_5 t_6 (.cons rfl t_5 t_6 (.cons rfl t_5 t_6 (.cons rfl t_5 t_6 (.cons rfl t_5 t_6 (.cons rfl t_5 t_6 (.cons rfl t_30 t_0 (.cons rfl t_2y trivial .nil))))))))) (.cons rfl t_g rfl t_0 (.cons rfl t_g rfl t_0 (.cons rfl t_g rfl t_0 (.cons rfl t_g rfl t_0 (.cons rfl t_g rfl t_0 (.cons rfl (renBlk (by rw [show 4 * (i + 1) = 4 * i + 4 by omega])) rfl t_0 .nil)))))) rfl rfl rfl), (by omega)⟩
        ·
          replace hc := lss_f hc
          obtain rfl : i = 16 := by omega
          have hlo := length_outP5 (s := sumL (cha (firstM key n nonce) 10) (firstM key n nonce)) (t := 64) (by omega)
          rw [show 4 * 16 = 64 from rfl] at *
          refine W_exit ?_
          refine wsr ?_
          refine wp rfl hC (oc_load hC (.tmp rfl) t_3 shp_73 (by exact (unit_all hlo)) rfl rfl) ?_
          refine wp rfl hC (ox_store hC (.tmp rfl) (.tmp rfl) rfl shp_73 t_h (by rw [cells_ag, length_I, hlo]) t_s (put_allI (by rw [hlo]; rfl)) t_f rfl) ?_
          refine WL_nil ?_
          refine W_ret ?_
          exact fin0 (.cons (.cell rfl (.p rfl) shp_73 (unit_all hlo)) .nil) (congrArg (fun l => AV.ag (I .u8 l)) (outP5_end.trans blk_out)) (inSL_I _)
set_option maxRecDepth 20000 in
set_option maxHeartbeats 4000000 in
theorem clone_c (n : Nat) (b : List Int) (hb : b.length = n) (hl : n ≤ 1099511627776) : FnC Tryd.prog 34 [] [.vs n (I .u8 b)] [] [(0, .row 5 1 n (I .u8 b))] (.row 0) := by
  refine FnC.introR (N0 := 0) (T := 8) (E := [(0, .vs n (I .u8 b))]) Tryd.func34 rfl (by decide) mix rfl rfl rfl (by simp) rfl ⟨t_b, trivial⟩ (by simp) (by
        intro S ha hr hw
        have s0 : S 0 := hw 0 t_17 t_5
        refine ⟨by first | exact inSL_I _ | simp [s0], fun k b hm => ?_⟩
        simp only [List.mem_cons, Prod.mk.injEq, List.not_mem_nil, or_false] at hm
        rcases hm with ⟨rfl, rfl⟩
        · exact ⟨s0, by first | exact inSL_I _ | simp [s0]⟩) (fun F n0 X w ρ hC hro => ?_)
  refine wsr ?_
  refine wp rfl hC t_v ?_
  refine WL_nil ?_
  refine W_seq ?_
  refine wsr ?_
  refine wp rfl hC t_1 ?_
  refine WL_eqnil hC (.inl rfl) (.tmp rfl) Tryd.underlying22 rfl rfl (fun z hz => ?_)
  cases z
  ·
    refine WL_nil ?_
    refine W_cond rfl (by decide) (fun hc => by cases hc) (fun _ => ?_)
    refine W_skip ?_
    refine wsr ?_
    refine wp rfl hC t_4r ?_
    refine wp rfl hC t_1 ?_
    refine wp rfl hC t_87 ?_
    refine wp rfl hC t_4 ?_
    refine WL_nil ?_
    refine W_ret ?_
    exact fin1 (.cons (.tmp rfl) .nil) rfl rfl (inSL_I _)
  ·
    obtain rfl : b = [] := by
      have := hz rfl
      simpa using this
    subst hb
    refine WL_nil ?_
    refine W_cond rfl (by decide) (fun _ => ?_) (fun hc => by cases hc)
    refine wsr ?_
    refine wp rfl hC t_v ?_
    refine WL_weak (weak_nil (t := 2) (e := 5) (sz := 1) rfl) ?_
    refine WL_nil ?_
    refine W_ret ?_
    exact fin1 (.cons (.tmp rfl) .nil) rfl rfl (inSL_I _)
set_option maxRecDepth 20000 in
set_option maxHeartbeats 4000000 in
theorem blocks_c (key nonce : List Int) (n : Int) (hk : key.length = 32) (hnc : nonce.length = 12) : FnC Tryd.prog 47 [] [.ag (I .u8 key), .i .u32 n, .ag (I .u8 nonce)] [] [(0, .blk 25 (I .u8 key)), (1, .blk 63 [.i .u32 n]), (2, .blk 27 (I .u8 nonce))] (.f 65 [.p 0 0, .p 1 0, .p 2 0]) := by
  refine FnC.introR (N0 := 0) (T := 8) (E := [(0, .ag (I .u8 key)), (1, .i .u32 n), (2, .ag (I .u8 nonce))]) Tryd.func47 rfl (by decide) mix rfl rfl rfl (by simp) rfl ⟨t_b, t_b, t_b, trivial⟩ (by simp) (by
        intro S ha hr hw
        have s0 : S 0 := hw 0 t_17 t_5
        have s1 : S 1 := hw 1 t_17 t_5
        have s2 : S 2 := hw 2 t_17 t_5
        refine ⟨by first | exact inSL_I _ | simp [s0, s1, s2], fun k b hm => ?_⟩
        simp only [List.mem_cons, Prod.mk.injEq, List.not_mem_nil, or_false] at hm
        rcases hm with ⟨rfl, rfl⟩ | ⟨rfl, rfl⟩ | ⟨rfl, rfl⟩
        · exact ⟨s0, by first | exact inSL_I _ | simp [s0, s1, s2]⟩
        · exact ⟨s1, by first | exact inSL_I _ | simp [s0, s1, s2]⟩
        · exact ⟨s2, by first | exact inSL_I _ | simp [s0, s1, s2]⟩) (fun F n0 X w ρ hC hro => ?_)
  refine wsr ?_
  refine wp rfl hC t_3j ?_
  refine wp rfl hC t_3j ?_
  refine wp rfl hC t_3j ?_
  refine wp rfl hC (oc_assign hC .cnilf rfl rfl) ?_
  refine WL_nil ?_
  refine wsr ?_
  refine wp rfl hC (oc_func hC (.cons (.tmp rfl) (.cons (.tmp rfl) (.cons (.tmp rfl) .nil))) rfl rfl) ?_
  refine wp rfl hC t_4 ?_
  refine WL_nil ?_
  refine W_ret ?_
  exact finK (fun k => k) (.cons (.tmp rfl) .nil) t_5 (wr_cons rfl t_g (wr_cons rfl t_g (wr_cons rfl t_g wr_nil))) rfl rfl
set_option maxRecDepth 20000 in
set_option maxHeartbeats 4000000 in
theorem xor_c (nb : Nat) (b : List Int) (key nonce : List Int) (n : Int) (hk : key.length = 32) (hnc : nonce.length = 12) (hk8 : B8 key) (hc8 : B8 nonce) (hn : 0 ≤ n ∧ n < 4294967296) (hb : b.length = nb) (hb8 : B8 b) (hl : nb ≤ 1099511627776) : FnC Tryd.prog 36 [] [.ag (I .u8 key), .i .u32 n, .ag (I .u8 nonce), .vs nb (I .u8 b)] [] [(0, .row 5 1 nb (I .u8 (xorM key n nonce b)))] (.row 0) := by
  refine FnC.introR (N0 := 0) (T := 46) (E := [(0, .ag (I .u8 key)), (1, .i .u32 n), (2, .ag (I .u8 nonce)), (3, .vs nb (I .u8 b))]) Tryd.func36 rfl (by decide) mix rfl rfl rfl (by simp) rfl ⟨t_b, t_b, t_b, t_b, trivial⟩ (by simp) (by
        intro S ha hr hw
        have s0 : S 0 := hw 0 t_17 t_5
        refine ⟨by first | exact inSL_I _ | simp [s0], fun k b hm => ?_⟩
        simp only [List.mem_cons, Prod.mk.injEq, List.not_mem_nil, or_false] at hm
        rcases hm with ⟨rfl, rfl⟩
        · exact ⟨s0, by first | exact inSL_I _ | simp [s0]⟩) (fun F n0 X w ρ hC hro => ?_)
  refine wsr ?_
  refine wp rfl hC t_3j ?_
  refine wp rfl hC t_3j ?_
  refine wp rfl hC t_v ?_
  refine WL_nil ?_
  refine wsr ?_
  refine wp rfl hC t_1 ?_
  refine wp rfl hC (oc_callN hC (.cons (.tmp rfl) .nil) (.cons1 t_31 (.same t_0)) (clone_c _ _ hb hl) glob_nil t_0 rfl t_q rfl rfl) ?_
  refine wp rfl hC t_4 ?_
  refine WL_nil ?_
  refine wsr ?_
  refine wp rfl hC t_1 ?_
  refine WL_weak (weak_sl (t := 16) rfl rfl) ?_
  refine wp rfl hC (ox_alloc hC zero_22 rfl rfl rfl) ?_
  refine wp rfl hC (ox_store hC (.tmp rfl) (.tmp rfl) rfl shp_22 t_h t_18 t_s t_4c t_f rfl) ?_
  refine WL_nil ?_
  refine W_seq ?_
  refine wsr ?_
  refine wp rfl hC (oc_load hC (.tmp rfl) t_3 shp_25 t_48 rfl rfl) ?_
  refine wp rfl hC t_1 ?_
  refine wp rfl hC (oc_load hC (.tmp rfl) t_3 shp_27 t_48 rfl rfl) ?_
  refine wp rfl hC (oc_callG (v' := .f 65 [.p 4 0, .p 5 0, .p 6 0]) (τ := fun k => bif Nat.beq k 2 then 6 else bif Nat.beq k 1 then 5 else bif Nat.beq k 0 then 4 else k) (N' := 7) hC .func (.cons (.tmp rfl) (.cons (.tmp rfl) (.cons (.tmp rfl) .nil))) (.v1 (.free t_0) (.v1 (.free t_0) (.v1 (.free t_0) .end))) (blocks_c _ _ _ hk hnc) glob_nil mr_nil (mr_cons t_g rfl (mr_cons t_g rfl (mr_cons t_g rfl mr_nil))) rfl rd_nil rfl rfl rfl rfl (by first | exact .inl rfl | exact .inr ⟨by simp, (nv_cons t_1s (nv_cons t_1s (nv_cons t_1s nv_nil)))⟩) rfl (dst_ok rfl rfl) (fun t => setE_cons _ _ _ _)) ?_
  refine WL_nil ?_
  refine W_blk ?_
  refine W_range (T := 13) (G := []) [0, 1, 2, 3, 4, 5, 6] hC hro rfl rfl rfl rfl Tryd.func65 rfl rfl (by decide) rfl rfl rfl glob_nil rfl (by simp) (fun k hk => by first | exact absurd hk (Nat.not_lt_zero _) | (have hk2 : k < 0 := hk; have : k = 0 ∨ k = 1 ∨ k = 2 ∨ k = 3 := (by omega); rcases this with rfl | rfl | rfl | rfl <;> first | decide | omega)) (by show ∀ k ∈ _, k < 7; decide) (fun ρ1 w1 H1 l1 r1 hI1 hR1 => ?_)
  refine W_blk ?_
  refine W_loopW (fun (ζ : Nat) => ⟨7, [(0, .f (1000000000 + l1) []), (1, .p 4 0), (2, .p 5 0), (3, .p 6 0), (5000000, .rp [])], [(0, .blk 25 (I .u8 key)), (1, .blk 27 (I .u8 nonce)), (2, .row 5 1 nb (I .u8 (xU key n nonce b (64 * ζ)))), (3, .blk 22 [.sl 2 (64 * ζ) (nb - 64 * ζ)]), (4, .blk 25 (I .u8 key)), (5, .blk 63 [.i .u32 (nn n ζ)]), (6, .blk 27 (I .u8 nonce))]⟩) (fun ζ => ζ = 0 ∨ 64 * ζ < nb) (fun ζ => nb - 64 * ζ) (0) (.inl rfl) (weakK (fun k => k) (.cons rfl t_30 t_0 (.cons rfl t_5 t_6 (.cons rfl t_5 t_6 (.cons rfl t_5 t_6 (.cons rfl t_30 t_0 .nil))))) (.cons rfl (renBlk rfl) rfl t_0 (.cons rfl (renBlk rfl) rfl t_0 (.cons rfl (renRow rfl (by rw [Nat.mul_zero, xU_zero])) rfl t_0 (.cons rfl rfl rfl t_0 (.cons rfl (renBlk rfl) rfl t_0 (.cons rfl (by rw [nn_zero hn]; rfl) rfl t_0 (.cons rfl (renBlk rfl) rfl t_0 .nil))))))) rfl rfl rfl) ?_
  intro i hR
  replace hR : i = 0 ∨ 64 * i < nb := hR
  first | show W _ _ _ ⟨7, [(0, .f (1000000000 + l1) []), (1, .p 4 0), (2, .p 5 0), (3, .p 6 0), (5000000, .rp [])], [(0, .blk 25 (I .u8 key)), (1, .blk 27 (I .u8 nonce)), (2, .row 5 1 nb (I .u8 (xU key n nonce b (64 * i)))), (3, .blk 22 [.sl 2 (64 * i) (nb - 64 * i)]), (4, .blk 25 (I .u8 key)), (5, .blk 63 [.i .u32 (nn n i)]), (6, .blk 27 (I .u8 nonce))]⟩ | skip
  have hlx := length_xU (key := key) (n := n) (nonce := nonce) (b := b) (t := 64 * i) (by omega)
  have hnn := nn_range (n := n) (i := i)
  have hlb := length_blk key (nn n i) nonce
  refine W_seq ?_
  refine wsr ?_
  refine WL_cons hI1.fn (.plain rfl (oc_move hI1 (.tmp rfl) rfl rfl)) ?_
  refine WL_cons hI1.fn (.plain rfl (oc_load hI1 (.tmp rfl) t_3 shp_25 t_48 rfl rfl)) ?_
  refine WL_cons hI1.fn (.plain rfl (oc_load hI1 (.tmp rfl) t_3 shp_63 t_3m rfl rfl)) ?_
  refine WL_cons hI1.fn (.plain rfl (oc_load hI1 (.tmp rfl) t_3 shp_27 t_48 rfl rfl)) ?_
  refine WL_cons hI1.fn (.plain rfl (oc_call hI1 (.cons (.tmp rfl) (.cons (.tmp rfl) (.cons (.tmp rfl) .nil))) (.cons1 (.free t_0) (.cons1 (.free t_0) (.cons1 (.free t_0) (.same t_0)))) (block_c _ _ _ hk hnc hk8 hc8 hnn) glob_nil t_0 t_8 rfl rfl)) ?_
  refine WL_yield [0, 1, 2, 3, 4, 5, 6] hR1 hI1 rfl rfl (.cons (.tmp rfl) .nil) rfl rfl rfl rfl rfl rfl (by decide) (by simp) (by show ∀ k ∈ _, k < 7; decide) (fun ρb wb Hb hB => ?_)
  refine W_region ?_
  refine WL_cons hB.fn (.plain rfl (ox_alloc hB zero_73 rfl rfl rfl)) ?_
  refine WL_cons hB.fn (.plain rfl (ox_store hB (.tmp rfl) (.tmp rfl) rfl shp_73 t_h t_18 t_s t_4o t_f rfl)) ?_
  refine WL_nil ?_
  refine ⟨rfl, ?_⟩
  refine W_blk ?_
  refine wsr ?_
  refine WL_cons hB.fn (.plain rfl t_7l) ?_
  refine WL_cons hB.fn (.plain rfl (ox_len hB (.tmp rfl) t_a Tryd.underlying22 rfl rfl rfl)) ?_
  refine WL_cons hB.fn (.plain rfl (ox_min hB (.tmp rfl) .cint (r := ((min (nb - 64 * i) 64 : Nat) : Int)) (by omega) rfl rfl)) ?_
  refine WL_cons hB.fn (.plain rfl (oc_assign hB (.tmp rfl) rfl rfl)) ?_
  refine WL_nil ?_
  refine W_seq ?_
  refine wsr ?_
  refine WL_cons hB.fn (.plain rfl t_2g) ?_
  refine WL_cons hB.fn (.plain rfl (oc_move hB .cint rfl rfl)) ?_
  refine WL_nil ?_
  refine W_blk ?_
  refine W_loopW (fun (ζ : Nat) => ⟨8, [(10, .p 3 0), (11, .p 7 0), (12, .i .i64 (min (nb - 64 * i) 64 : Nat)), (25, .i .i64 (min (nb - 64 * i) 64 : Nat)), (26, .i .i64 ζ), (5000001, .rp [])], [(0, .blk 25 (I .u8 key)), (1, .blk 27 (I .u8 nonce)), (2, .row 5 1 nb (I .u8 (xU key n nonce b (64 * i + ζ)))), (3, .blk 22 [.sl 2 (64 * i) (nb - 64 * i)]), (4, .blk 25 (I .u8 key)), (5, .blk 63 [.i .u32 (nn n i)]), (6, .blk 27 (I .u8 nonce)), (7, .blk 73 (I .u8 (blkM key (nn n i) nonce)))]⟩) (fun ζ => ζ ≤ min (nb - 64 * i) 64) (fun ζ => min (nb - 64 * i) 64 - ζ) (0) (Nat.zero_le _) (weakK (fun k => k) (.cons rfl t_5 t_6 (.cons rfl t_5 t_6 (.cons rfl t_2y trivial (.cons rfl t_2y trivial (.cons rfl rfl trivial (.cons rfl t_30 t_0 .nil)))))) (.cons rfl t_g rfl t_0 (.cons rfl t_g rfl t_0 (.cons rfl (renRow rfl rfl) rfl t_0 (.cons rfl rfl rfl t_0 (.cons rfl t_g rfl t_0 (.cons rfl rfl rfl t_0 (.cons rfl t_g rfl t_0 (.cons rfl t_g rfl t_0 .nil)))))))) rfl rfl rfl) ?_
  intro j hR
  replace hR : j ≤ min (nb - 64 * i) 64 := hR
  first | show W _ _ _ ⟨8, [(10, .p 3 0), (11, .p 7 0), (12, .i .i64 (min (nb - 64 * i) 64 : Nat)), (25, .i .i64 (min (nb - 64 * i) 64 : Nat)), (26, .i .i64 j), (5000001, .rp [])], [(0, .blk 25 (I .u8 key)), (1, .blk 27 (I .u8 nonce)), (2, .row 5 1 nb (I .u8 (xU key n nonce b (64 * i + j)))), (3, .blk 22 [.sl 2 (64 * i) (nb - 64 * i)]), (4, .blk 25 (I .u8 key)), (5, .blk 63 [.i .u32 (nn n i)]), (6, .blk 27 (I .u8 nonce)), (7, .blk 73 (I .u8 (blkM key (nn n i) nonce)))]⟩ | skip
  have hlj := length_xU (key := key) (n := n) (nonce := nonce) (b := b) (t := 64 * i + j) (by omega)
  refine wsr ?_
  refine WL_cons hB.fn (.plain rfl (ox_cmp hB rfl (.tmp rfl) (.tmp rfl) rfl rfl rfl)) ?_
  refine WL_nil ?_
  refine W_seq ?_
  refine W_cond rfl (by decide) (fun hc => ?_) (fun hc => ?_)
  ·
    replace hc := lss_t hc
    
    refine W_skip ?_
    refine W_seq ?_
    refine W_blk ?_
    refine wsr ?_
    refine WL_cons hB.fn (.plain rfl t_2g) ?_
    refine WL_cons hB.fn (.plain rfl (oc_assign hB (.tmp rfl) rfl rfl)) ?_
    refine WL_nil ?_
    refine W_drawD hB ?_
    refine WD_cons (.plain rfl t_7l) ?_
    refine WD_cons (.plain rfl t_2g) ?_
    refine WD_cons (.plain rfl (ox_indexS hB  (.tmp rfl) (.tmp rfl) idx_22 t_u t_d t_33 t_2 rfl rfl)) ?_
    refine WD_cons (.plain rfl (oc_load hB (.tmp rfl) t_3 shp_5 t_3m rfl rfl)) ?_
    refine WD_cons (.plain rfl t_2g) ?_
    refine WD_cons (.plain rfl (ox_indexA hB  (.tmp rfl) (.tmp rfl) idx_73 t_u t_2 t_d t_34 rfl rfl)) ?_
    refine WD_cons (.plain rfl (oc_load hB (.tmp rfl) t_3 shp_5 t_3m rfl rfl)) ?_
    refine WD_cons (.plain rfl (oc_bin hB rfl (.tmp rfl) (.tmp rfl) rfl rfl rfl)) ?_
    refine WD_cons (.plain rfl (ox_indexS hB  (.tmp rfl) (.tmp rfl) idx_22 t_u t_d t_33 t_2 rfl rfl)) ?_
    refine WD_cons (.plain rfl (ox_store hB (.tmp rfl) (.tmp rfl) rfl shp_5 t_h t_18 t_s t_4c t_f rfl)) ?_
    refine WD_nil t_x ?_
    refine W_region ?_
    refine WL_cons hB.fn (.plain rfl (oc_bin hB rfl (.tmp rfl) .cint t_i rfl rfl)) ?_
    refine WL_cons hB.fn (.plain rfl t_2g) ?_
    refine WL_nil ?_
    exact ⟨(j + 1), (by omega), (weakK (fun k => k) (.cons rfl t_5 t_6 (.cons rfl t_5 t_6 (.cons rfl t_2y trivial (.cons rfl t_2y trivial (.cons rfl t_2y trivial (.cons rfl t_30 t_0 .nil)))))) (.cons rfl t_g rfl t_0 (.cons rfl t_g rfl t_0 (.cons rfl (renRow rfl (by rw [show 64 * i + (j + 1) = 64 * i + j + 1 from rfl, ← xU_succ (by omega), xU_get (by omega), ks_at (by omega)])) rfl t_0 (.cons rfl rfl rfl t_0 (.cons rfl t_g rfl t_0 (.cons rfl rfl rfl t_0 (.cons rfl t_g rfl t_0 (.cons rfl t_g rfl t_0 .nil)))))))) rfl rfl rfl), (by omega)⟩
  ·
    replace hc := lss_f hc
    obtain rfl : j = min (nb - 64 * i) 64 := by omega
    refine W_exit ?_
    refine wsr ?_
    refine WL_cons hB.fn (.plain rfl t_7l) ?_
    refine WL_cons hB.fn (.plain rfl t_2g) ?_
    refine WL_cons hB.fn (.plain rfl (ox_cutS hB (.tmp rfl) (.yes (.tmp rfl) t_u) .no idx_22 t_3w t_2 t_2 t_1b rfl rfl)) ?_
    refine WL_cons hB.fn (.plain rfl (ox_store hB (.tmp rfl) (.tmp rfl) rfl shp_22 t_h t_18 t_s t_4c t_f rfl)) ?_
    refine WL_nil ?_
    refine wsr ?_
    refine WL_cons hB.fn (.plain rfl t_7l) ?_
    refine WL_cons hB.fn (.plain rfl (ox_len hB (.tmp rfl) t_a Tryd.underlying22 rfl rfl rfl)) ?_
    refine WL_cons hB.fn (.plain rfl (ox_cmp hB rfl (.tmp rfl) .cint rfl rfl rfl)) ?_
    refine WL_nil ?_
    refine W_cond rfl (by decide) (fun hc => ?_) (fun hc => ?_)
    ·
      replace hc := eql_t hc
      rw [show 64 * i + min (nb - 64 * i) 64 = nb by omega, xU_end hb]
      refine W_exit ?_
      refine rd_x (by rfl) ?_
      refine WL_nil ?_
      refine W_cond rfl (by decide) (fun hc => by cases hc) (fun _ => ?_)
      refine W_exit ?_
      refine rq_x 0 (.inl rfl) (by rfl) ?_
      refine wsr ?_
      refine wp rfl hC t_1 ?_
      refine wp rfl hC t_4 ?_
      refine WL_nil ?_
      refine W_ret ?_
      exact fin1 (.cons (.tmp rfl) .nil) rfl rfl (inSL_I _)
    ·
      replace hc := eql_f hc
      have h64 : min (nb - 64 * i) 64 = 64 := by omega
      refine W_skip ?_
      refine rd_n (by rfl) ?_
      refine WL_nil ?_
      refine W_cond rfl (by decide) (fun _ => ?_) (fun hc => by cases hc)
      refine W_skip ?_
      refine W_blk ?_
      refine W_region ?_
      refine WL_cons hI1.fn (.plain rfl (oc_load hI1 (.tmp rfl) t_3 shp_63 t_3m rfl rfl)) ?_
      refine WL_cons hI1.fn (.plain rfl (oc_bin hI1 rfl (.tmp rfl) .cint (u32_wrap _) rfl rfl)) ?_
      refine WL_cons hI1.fn (.plain rfl (ox_store hI1 (.tmp rfl) (.tmp rfl) rfl shp_63 t_h t_18 t_s t_4c t_f rfl)) ?_
      refine WL_nil ?_
      exact ⟨(i + 1), (.inr (by omega)), (weakK (fun k => k) (.cons rfl t_30 t_0 (.cons rfl t_5 t_6 (.cons rfl t_5 t_6 (.cons rfl t_5 t_6 (.cons rfl t_30 t_0 .nil))))) (.cons rfl (renBlk rfl) rfl t_0 (.cons rfl (renBlk rfl) rfl t_0 (.cons rfl (renRow rfl (by rw [show 64 * (i + 1) = 64 * i + min (nb - 64 * i) 64 by omega])) rfl t_0 (.cons rfl (by show Blk.blk _ [AV.sl 2 _ _] = Blk.blk _ [AV.sl 2 _ _]; congr 3 <;> omega) rfl t_0 (.cons rfl (renBlk rfl) rfl t_0 (.cons rfl (by rw [← nn_succ]; rfl) rfl t_0 (.cons rfl (renBlk rfl) rfl t_0 .nil))))))) rfl rfl rfl), (by omega)⟩
end Go.Proofs.YtfngpppghlbanaaDoor
