/- Own work, printed by a program of this claim: walks through functions of the program. -/
import Derived.Test.YtfngpppghlbanaaDoorE
import Derived.Test.YtfngpppghlbanaaDoorProg
import Derived.KernelRfl
set_option linter.unusedSimpArgs false
set_option linter.unusedVariables false
namespace Go.Proofs.YtfngpppghlbanaaDoor
open Go.Sk Go.RowKit
attribute [local simp] AV.inSL AV.inS inSL_I Blk.inS Blk.cs AV.novs AV.novsL novsL_I AV.ren AV.cells AV.one lk tuAV
theorem mix : Tryd.prog.follows .mixedOrders = true := by kernel_rfl
theorem bld_83 : bldOK Tryd.prog 83 = true := by kernel_rfl
theorem bytes_5 : (Tryd.prog.info? 5).map (·.bytes) = some 1 := by kernel_rfl
theorem cells_5 : Tryd.prog.cellsOf 5 = 1 := by kernel_rfl
theorem cells_63 : Tryd.prog.cellsOf 63 = 1 := by kernel_rfl
theorem elt_108 : elt Tryd.prog 108 = some (64, false, 1) := by kernel_rfl
theorem elt_83 : elt Tryd.prog 83 = some (8, false, 1) := by kernel_rfl
theorem idx_108 : idx Tryd.prog 108 = some (some 64, 1) := by kernel_rfl
theorem idx_22 : idx Tryd.prog 22 = some (none, 1) := by kernel_rfl
theorem idx_25 : idx Tryd.prog 25 = some (some 32, 1) := by kernel_rfl
theorem idx_68 : idx Tryd.prog 68 = some (none, 1) := by kernel_rfl
theorem idx_73 : idx Tryd.prog 73 = some (some 64, 1) := by kernel_rfl
theorem idx_83 : idx Tryd.prog 83 = some (some 8, 1) := by kernel_rfl
theorem shp_108 : shp Tryd.prog 108 = some (true, 64) := by kernel_rfl
theorem shp_22 : shp Tryd.prog 22 = some (false, 1) := by kernel_rfl
theorem shp_25 : shp Tryd.prog 25 = some (true, 32) := by kernel_rfl
theorem shp_5 : shp Tryd.prog 5 = some (false, 1) := by kernel_rfl
theorem shp_63 : shp Tryd.prog 63 = some (false, 1) := by kernel_rfl
theorem shp_73 : shp Tryd.prog 73 = some (true, 64) := by kernel_rfl
theorem shp_83 : shp Tryd.prog 83 = some (true, 8) := by kernel_rfl
theorem zero_108 : zeroAV Tryd.prog 108 = some (I .u32 (List.replicate 64 0)) := by kernel_rfl
theorem zero_25 : zeroAV Tryd.prog 25 = some (I .u8 (List.replicate 32 0)) := by kernel_rfl
theorem zero_5 : zeroAV Tryd.prog 5 = some [.i .u8 0] := by kernel_rfl
theorem zero_83 : zeroAV Tryd.prog 83 = some (I .u32 (List.replicate 8 0)) := by kernel_rfl
set_option maxRecDepth 20000 in
set_option maxHeartbeats 4000000 in
theorem drotl_c (x k : Int) : FnC Tryd.prog 90 [] [.i .u32 x, .i .i64 k] [] [] (.i .u32 (rotl32 x k)) := by
  refine FnC.introR (N0 := 0) (T := 17) (E := [(0, .i .u32 x), (1, .i .i64 k)]) Tryd.func90 rfl (by decide) mix rfl rfl rfl (by simp) rfl ⟨t_b, t_b, trivial⟩ (by simp) t_10 (fun F n0 X w ρ hC hro => ?_)
  refine wsr ?_
  refine wp rfl hC t_k ?_
  refine WL_nil ?_
  refine wsr ?_
  refine wp rfl hC t_1 ?_
  refine wp rfl hC (oc_conv hC (.tmp rfl) rfl Tryd.underlying61 (r := IntKind.u64.wrap k) rfl rfl rfl) ?_
  refine wp rfl hC (oc_bin hC rfl (.tmp rfl) .cint rfl rfl rfl) ?_
  refine wp rfl hC t_4 ?_
  refine WL_nil ?_
  refine wsr ?_
  refine wp rfl hC t_1 ?_
  refine wp rfl hC t_1 ?_
  refine wp rfl hC (oc_shift hC (.inl rfl) (.tmp rfl) (.tmp rfl) (wrap_u64_nonneg _) rfl rfl rfl) ?_
  refine wp rfl hC t_1 ?_
  refine wp rfl hC t_1 ?_
  refine wp rfl hC (oc_bin hC rfl .cint (.tmp rfl) (r := binI .sub .u64 32 (rotS k)) rfl rfl rfl) ?_
  refine wp rfl hC (oc_shift hC (.inr rfl) (.tmp rfl) (.tmp rfl) (wrap_u64_nonneg _) rfl rfl rfl) ?_
  refine wp rfl hC t_1h ?_
  refine wp rfl hC t_4 ?_
  refine WL_nil ?_
  refine W_ret ?_
  exact fin0 (.cons (.tmp rfl) .nil) t_1u t_0
set_option maxRecDepth 20000 in
set_option maxHeartbeats 4000000 in
theorem turn_c (x n : Int) (m : Nat) (hm : n = m) (hx : 0 ≤ x ∧ x < 4294967296) (h0 : 0 < m) (hn : m < 32) : FnC Tryd.prog 82 [] [.i .u32 x, .i .i64 n] [] [] (.i .u32 (ror x m)) := by
  have hv : rotl32 x (unI .neg .i64 n) = ror x m := by subst hm; exact rotl_ror hx h0 hn
  refine FnC.introR (N0 := 0) (T := 9) (E := [(0, .i .u32 x), (1, .i .i64 n)]) Tryd.func82 rfl (by decide) mix rfl rfl rfl (by simp) rfl ⟨t_b, t_b, trivial⟩ (by simp) t_10 (fun F n0 X w ρ hC hro => ?_)
  refine wsr ?_
  refine wp rfl hC t_k ?_
  refine WL_nil ?_
  refine wsr ?_
  refine wp rfl hC t_1 ?_
  refine wp rfl hC t_1 ?_
  refine wp rfl hC (oc_neg hC (.inl rfl) (.tmp rfl) rfl rfl rfl) ?_
  refine wp rfl hC (oc_call hC (.cons (.tmp rfl) (.cons (.tmp rfl) .nil)) (.cons1 (.free t_0) (.cons1 (.free t_0) (.same t_0))) (drotl_c _ _) glob_nil t_0 t_8 rfl rfl) ?_
  refine wp rfl hC t_4 ?_
  refine WL_nil ?_
  refine W_ret ?_
  exact fin0 (.cons (.tmp rfl) .nil) (congrArg (AV.i .u32) hv) t_0
set_option maxRecDepth 20000 in
set_option maxHeartbeats 4000000 in
theorem start_c  : FnC Tryd.prog 59 [] [] [] [] (.ag (I .u32 start8)) := by
  refine FnC.introR (N0 := 0) (T := 2) (E := []) Tryd.func59 rfl (by decide) mix rfl rfl rfl (by simp) rfl trivial (by simp) t_10 (fun F n0 X w ρ hC hro => ?_)
  refine wsr ?_
  refine wp rfl hC (ox_alloc hC zero_83 rfl rfl rfl) ?_
  refine WL_nil ?_
  refine wsr ?_
  refine wp rfl hC (ox_arr hC (.cons .cint (.cons .cint (.cons .cint (.cons .cint (.cons .cint (.cons .cint (.cons .cint (.cons .cint .nil)))))))) Tryd.underlying83 cells_63 zero_83 t_5 bld_83 rfl rfl t_5 rfl rfl) ?_
  refine wp rfl hC t_7n ?_
  refine WL_nil ?_
  refine W_ret ?_
  exact fin0 (.cons (.cell rfl t_3 shp_83 t_48) .nil) t_1u t_0
set_option maxRecDepth 20000 in
set_option maxHeartbeats 4000000 in
theorem dword_c (b : List Int) (n : Nat) (hn : b.length = n) (h4 : 4 ≤ n) (hb : B8 b) : FnC Tryd.prog 81 [] [.vs n (I .u8 b)] [] [] (.i .u32 (word4 b 0)) := by
  have h0 := hb.get 0
  have h1 := hb.get 1
  have h2 := hb.get 2
  have h3 := hb.get 3
  refine FnC.introR (N0 := 0) (T := 25) (E := [(0, .vs n (I .u8 b))]) Tryd.func81 rfl (by decide) mix rfl rfl rfl (by simp) rfl ⟨t_b, trivial⟩ (by simp) t_10 (fun F n0 X w ρ hC hro => ?_)
  refine wsr ?_
  refine wp rfl hC t_k ?_
  refine WL_nil ?_
  refine W_seq ?_
  refine W_drawD hC ?_
  refine WD_cons (.plain rfl t_1) ?_
  refine WD_cons (.plain rfl (ox_indexS hC (j := 0) (.tmp rfl) .cint idx_22 rfl t_d t_33 t_2 rfl rfl)) ?_
  refine WD_cons (.plain rfl t_6l) ?_
  refine WD_cons (.plain rfl t_4a) ?_
  refine WD_cons (.plain rfl (oc_shift hC (.inl rfl) (.tmp rfl) .cint t_j (shl_n (n := 24) rfl (by decide)) rfl rfl)) ?_
  refine WD_cons (.plain rfl t_1) ?_
  refine WD_cons (.plain rfl (ox_indexS hC (j := 1) (.tmp rfl) .cint idx_22 rfl t_d t_33 t_2 rfl rfl)) ?_
  refine WD_cons (.plain rfl t_6l) ?_
  refine WD_cons (.plain rfl t_4a) ?_
  refine WD_cons (.plain rfl (oc_shift hC (.inl rfl) (.tmp rfl) .cint t_j (shl_n (n := 16) rfl (by decide)) rfl rfl)) ?_
  refine WD_cons (.plain rfl t_1h) ?_
  refine WD_cons (.plain rfl t_1) ?_
  refine WD_cons (.plain rfl (ox_indexS hC (j := 2) (.tmp rfl) .cint idx_22 rfl t_d t_33 t_2 rfl rfl)) ?_
  refine WD_cons (.plain rfl (oc_load hC (.tmp rfl) t_3 shp_5 t_3m rfl rfl)) ?_
  refine WD_cons (.plain rfl t_4a) ?_
  refine WD_cons (.plain rfl (oc_shift hC (.inl rfl) (.tmp rfl) .cint t_j (shl_n (n := 8) rfl (by decide)) rfl rfl)) ?_
  refine WD_cons (.plain rfl t_1h) ?_
  refine WD_cons (.plain rfl t_1) ?_
  refine WD_cons (.plain rfl (ox_indexS hC (j := 3) (.tmp rfl) .cint idx_22 rfl t_d t_33 t_2 rfl rfl)) ?_
  refine WD_cons (.plain rfl t_6l) ?_
  refine WD_cons (.plain rfl t_4a) ?_
  refine WD_cons (.plain rfl t_1h) ?_
  refine WD_cons (.plain rfl t_4) ?_
  refine WD_nil t_x ?_
  refine W_ret ?_
  exact fin0 (.cons (.tmp rfl) .nil) (congrArg (AV.i .u32) (by unfold word4; exact word_or h0 h1 h2 h3)) t_0
set_option maxRecDepth 20000 in
set_option maxHeartbeats 4000000 in
theorem dblock_c (s b : List Int) (hs8 : s.length = 8) (hb64 : b.length = 64) (hs : W32 s) (hb : B8 b) : FnC Tryd.prog 60 [(1000000, .rp (I .u32 tbl))] [.ag (I .u32 s), .ag (I .u8 b)] [] [] (.ag (I .u32 (blockM tbl s b))) := by
  refine FnC.introR (N0 := 0) (T := 163) (E := [(0, .ag (I .u32 s)), (1, .ag (I .u8 b)), (1000000, .rp (I .u32 tbl))]) Tryd.func60 rfl (by decide) mix rfl rfl rfl (by simp) rfl ⟨t_b, t_b, trivial⟩ (by simp) t_10 (fun F n0 X w ρ hC hro => ?_)
  refine wsr ?_
  refine wp rfl hC t_3j ?_
  refine wp rfl hC t_3j ?_
  refine wp rfl hC (ox_alloc hC zero_83 rfl rfl rfl) ?_
  refine WL_nil ?_
  refine wsr ?_
  refine wp rfl hC (ox_alloc hC zero_108 rfl rfl rfl) ?_
  refine WL_nil ?_
  refine W_seq ?_
  refine wsr ?_
  refine wp rfl hC t_1l ?_
  refine WL_nil ?_
  refine W_blk ?_
  refine W_loopW (fun (ζ : Nat) => ⟨4, [(2, .p 0 0), (3, .p 1 0), (4, .p 2 0), (5, .p 3 0), (18, .i .i64 ζ), (1000000, .rp (I .u32 tbl))], [(0, .blk 83 (I .u32 s)), (1, .blk 73 (I .u8 b)), (2, .blk 83 (I .u32 (List.replicate 8 0))), (3, .blk 108 (I .u32 (wpre b ζ)))]⟩) (fun ζ => ζ ≤ 16) (fun ζ => 16 - ζ) (0) (by simp) (weak (fun k => k) (.cons rfl t_5 t_6 (.cons rfl t_5 t_6 (.cons rfl t_5 t_6 (.cons rfl t_5 t_6 (.cons rfl rfl trivial (.cons rfl t_30 t_0 .nil)))))) (.cons rfl t_g rfl t_0 (.cons rfl t_g rfl t_0 (.cons rfl t_g rfl t_0 (.cons rfl (renBlk wpre_zero) rfl t_0 .nil)))) rfl rfl rfl) ?_
  intro i hR
  replace hR : i ≤ 16 := hR
  first | show W _ _ _ ⟨4, [(2, .p 0 0), (3, .p 1 0), (4, .p 2 0), (5, .p 3 0), (18, .i .i64 i), (1000000, .rp (I .u32 tbl))], [(0, .blk 83 (I .u32 s)), (1, .blk 73 (I .u8 b)), (2, .blk 83 (I .u32 (List.replicate 8 0))), (3, .blk 108 (I .u32 (wpre b i)))]⟩ | skip
  have hlp := length_wpre (b := b) (i := i) (by omega)
  refine wsr ?_
  refine wp rfl hC t_11 ?_
  refine WL_nil ?_
  refine W_seq ?_
  refine W_cond rfl (by decide) (fun hc => ?_) (fun hc => ?_)
  ·
    replace hc := lss_t hc
    refine W_skip ?_
    refine W_seq ?_
    refine W_blk ?_
    refine wsr ?_
    refine wp rfl hC t_1 ?_
    refine wp rfl hC t_4 ?_
    refine WL_nil ?_
    refine W_region ?_
    refine wp rfl hC t_1 ?_
    refine wp rfl hC t_1 ?_
    refine wp rfl hC t_43 ?_
    refine wp rfl hC (ox_cutA hC (.tmp rfl) (.yes (n := 4 * i) (.tmp rfl) t_w) .no idx_73 t_2 t_2 t_3n t_1b rfl rfl) ?_
    refine wp rfl hC (oc_call hC (.cons (.tmp rfl) .nil) (.cons1 t_31 (.same t_0)) (dword_c _ _ t_7 (by omega) (fun x hx => hb x (List.mem_of_mem_drop (List.mem_of_mem_take hx)))) glob_nil t_0 t_8 rfl rfl) ?_
    rw [word4_cut (by omega), show 0 + 4 * i * 1 = 4 * i by omega]
    refine wp rfl hC (ox_indexA hC  (.tmp rfl) (.tmp rfl) idx_108 t_u t_2 t_d t_34 rfl rfl) ?_
    refine wp rfl hC t_7e ?_
    refine WL_nil ?_
    refine W_region ?_
    refine wp rfl hC t_36 ?_
    refine wp rfl hC t_1 ?_
    refine WL_nil ?_
    exact ⟨(i + 1), (by omega), (weak (fun k => k) (.cons rfl t_5 t_6 (.cons rfl t_5 t_6 (.cons rfl t_5 t_6 (.cons rfl t_5 t_6 (.cons rfl t_2y trivial (.cons rfl t_30 t_0 .nil)))))) (.cons rfl t_g rfl t_0 (.cons rfl t_g rfl t_0 (.cons rfl t_g rfl t_0 (.cons rfl (renBlk (wpre_succ (by omega)).symm) rfl t_0 .nil)))) rfl rfl rfl), (by omega)⟩
  ·
    replace hc := lss_f hc
    refine W_exit ?_
    refine W_seq ?_
    refine wsr ?_
    refine wp rfl hC t_k ?_
    refine WL_nil ?_
    refine W_blk ?_
    obtain rfl : i = 16 := by omega
    rw [wpre_spre]
    refine W_loopW (fun (ζ : Nat) => ⟨4, [(2, .p 0 0), (3, .p 1 0), (4, .p 2 0), (5, .p 3 0), (7, .i .i64 (16 + ζ)), (1000000, .rp (I .u32 tbl))], [(0, .blk 83 (I .u32 s)), (1, .blk 73 (I .u8 b)), (2, .blk 83 (I .u32 (List.replicate 8 0))), (3, .blk 108 (I .u32 (spre b ζ)))]⟩) (fun ζ => ζ ≤ 48) (fun ζ => 48 - ζ) (0) (by simp) (weak (fun k => k) (.cons rfl t_5 t_6 (.cons rfl t_5 t_6 (.cons rfl t_5 t_6 (.cons rfl t_5 t_6 (.cons rfl rfl trivial (.cons rfl t_30 t_0 .nil)))))) (.cons rfl t_g rfl t_0 (.cons rfl t_g rfl t_0 (.cons rfl t_g rfl t_0 (.cons rfl t_g rfl t_0 .nil)))) rfl rfl rfl) ?_
    intro j hR
    replace hR : j ≤ 48 := hR
    first | show W _ _ _ ⟨4, [(2, .p 0 0), (3, .p 1 0), (4, .p 2 0), (5, .p 3 0), (7, .i .i64 (16 + j)), (1000000, .rp (I .u32 tbl))], [(0, .blk 83 (I .u32 s)), (1, .blk 73 (I .u8 b)), (2, .blk 83 (I .u32 (List.replicate 8 0))), (3, .blk 108 (I .u32 (spre b j)))]⟩ | skip
    have hlp := length_spre (b := b) (j := j) (by omega)
    have hw := W32_spre hb j
    refine W_seq ?_
    refine wsr ?_
    refine wp rfl hC t_1 ?_
    refine wp rfl hC t_11 ?_
    refine WL_nil ?_
    refine W_cond rfl (by decide) (fun hc => ?_) (fun hc => ?_)
    ·
      replace hc := lss_t hc
      refine W_skip ?_
      refine W_seq ?_
      refine W_blk ?_
      refine W_seq ?_
      refine W_drawD hC ?_
      refine WD_cons (.plain rfl t_1) ?_
      refine WD_cons (.plain rfl t_40) ?_
      refine WD_cons (.plain rfl (ox_indexA hC (j := 1 + j) (.tmp rfl) (.tmp rfl) idx_108 t_w t_2 t_d t_34 rfl rfl)) ?_
      refine WD_cons (.plain rfl t_6z) ?_
      refine WD_cons (.plain rfl t_1) ?_
      refine WD_cons (.plain rfl t_40) ?_
      refine WD_cons (.plain rfl (ox_indexA hC (j := 14 + j) (.tmp rfl) (.tmp rfl) idx_108 t_w t_2 t_d t_34 rfl rfl)) ?_
      refine WD_cons (.plain rfl t_6z) ?_
      refine WD_cons (.plain rfl t_4) ?_
      refine WD_cons (.plain rfl t_4) ?_
      refine WD_nil t_x ?_
      refine W_drawD hC ?_
      refine WD_cons (.plain rfl t_1) ?_
      refine WD_cons (.plain rfl t_1) ?_
      refine WD_cons (.plain rfl t_40) ?_
      refine WD_cons (.plain rfl (ox_indexA hC (j := j) (.tmp rfl) (.tmp rfl) idx_108 t_w t_2 t_d t_34 rfl rfl)) ?_
      refine WD_cons (.plain rfl t_6z) ?_
      refine WD_cons (.plain rfl t_1) ?_
      refine WD_cons (.plain rfl (oc_call hC (.cons (.tmp rfl) (.cons .cint .nil)) (.cons1 (.free t_0) (.cons1 (.free t_0) (.same t_0))) (turn_c _ _ 7 rfl (hw.get _) (by decide) (by decide)) glob_nil t_0 t_8 rfl rfl)) ?_
      refine WD_cons (.plain rfl t_1) ?_
      refine WD_cons (.plain rfl (oc_call hC (.cons (.tmp rfl) (.cons .cint .nil)) (.cons1 (.free t_0) (.cons1 (.free t_0) (.same t_0))) (turn_c _ _ 18 rfl (hw.get _) (by decide) (by decide)) glob_nil t_0 t_8 rfl rfl)) ?_
      refine WD_cons (.plain rfl t_1h) ?_
      refine WD_cons (.plain rfl t_1) ?_
      refine WD_cons (.plain rfl (oc_shift hC (.inr rfl) (.tmp rfl) .cint t_j (shr_n (n := 3) rfl (by decide)) rfl rfl)) ?_
      refine WD_cons (.plain rfl t_1h) ?_
      refine WD_cons (.plain rfl t_21) ?_
      refine WD_cons (.plain rfl t_1) ?_
      refine WD_cons (.plain rfl t_40) ?_
      refine WD_cons (.plain rfl (ox_indexA hC (j := 9 + j) (.tmp rfl) (.tmp rfl) idx_108 t_w t_2 t_d t_34 rfl rfl)) ?_
      refine WD_cons (.plain rfl t_6z) ?_
      refine WD_cons (.plain rfl t_21) ?_
      refine WD_cons (.plain rfl t_1) ?_
      refine WD_cons (.plain rfl (oc_call hC (.cons (.tmp rfl) (.cons .cint .nil)) (.cons1 (.free t_0) (.cons1 (.free t_0) (.same t_0))) (turn_c _ _ 17 rfl (hw.get _) (by decide) (by decide)) glob_nil t_0 t_8 rfl rfl)) ?_
      refine WD_cons (.plain rfl t_1) ?_
      refine WD_cons (.plain rfl (oc_call hC (.cons (.tmp rfl) (.cons .cint .nil)) (.cons1 (.free t_0) (.cons1 (.free t_0) (.same t_0))) (turn_c _ _ 19 rfl (hw.get _) (by decide) (by decide)) glob_nil t_0 t_8 rfl rfl)) ?_
      refine WD_cons (.plain rfl t_1h) ?_
      refine WD_cons (.plain rfl t_1) ?_
      refine WD_cons (.plain rfl (oc_shift hC (.inr rfl) (.tmp rfl) .cint t_j (shr_n (n := 10) rfl (by decide)) rfl rfl)) ?_
      refine WD_cons (.plain rfl t_1h) ?_
      refine WD_cons (.plain rfl t_21) ?_
      refine WD_cons (.plain rfl (ox_indexA hC (j := 16 + j) (.tmp rfl) (.tmp rfl) idx_108 t_w t_2 t_d t_34 rfl rfl)) ?_
      refine WD_cons (.plain rfl t_7e) ?_
      refine WD_nil t_x ?_
      refine W_region ?_
      refine wp rfl hC t_1 ?_
      refine wp rfl hC t_36 ?_
      refine wp rfl hC t_4 ?_
      refine WL_nil ?_
      exact ⟨(j + 1), (by omega), (weak (fun k => k) (.cons rfl t_5 t_6 (.cons rfl t_5 t_6 (.cons rfl t_5 t_6 (.cons rfl t_5 t_6 (.cons rfl t_2y trivial (.cons rfl t_30 t_0 .nil)))))) (.cons rfl t_g rfl t_0 (.cons rfl t_g rfl t_0 (.cons rfl t_g rfl t_0 (.cons rfl (renBlk (spre_succ (by omega)).symm) rfl t_0 .nil)))) rfl rfl rfl), (by omega)⟩
    ·
      replace hc := lss_f hc
      refine W_exit ?_
      refine wsr ?_
      obtain rfl : j = 48 := by omega
      rw [spre_end]
      refine wp rfl hC t_7k ?_
      refine wp rfl hC (ox_alloc hC zero_83 rfl rfl rfl) ?_
      refine wp rfl hC t_7n ?_
      refine WL_nil ?_
      refine W_seq ?_
      refine wsr ?_
      refine wp rfl hC (oc_load hC (.glob rfl) t_3 shp_108 t_1w rfl rfl) ?_
      refine wp rfl hC t_1l ?_
      refine WL_nil ?_
      refine W_blk ?_
      
      refine W_loopW (fun (ζ : Nat) => ⟨5, [(2, .p 0 0), (3, .p 1 0), (4, .p 2 0), (5, .p 3 0), (10, .p 4 0), (70, .ag (I .u32 tbl)), (71, .i .i64 ζ), (1000000, .rp (I .u32 tbl))], [(0, .blk 83 (I .u32 s)), (1, .blk 73 (I .u8 b)), (2, .blk 83 (I .u32 (List.replicate 8 0))), (3, .blk 108 (I .u32 (wordsOf b))), (4, .blk 83 (I .u32 (rounds tbl (wordsOf b) ζ s)))]⟩) (fun ζ => ζ ≤ 64) (fun ζ => 64 - ζ) (0) (by simp) (weak (fun k => k) (.cons rfl t_5 t_6 (.cons rfl t_5 t_6 (.cons rfl t_5 t_6 (.cons rfl t_5 t_6 (.cons rfl t_5 t_6 (.cons rfl t_30 t_0 (.cons rfl rfl trivial (.cons rfl t_30 t_0 .nil)))))))) (.cons rfl t_g rfl t_0 (.cons rfl t_g rfl t_0 (.cons rfl t_g rfl t_0 (.cons rfl t_g rfl t_0 (.cons rfl (renBlk rounds_zero) rfl t_0 .nil))))) rfl rfl rfl) ?_
      intro i hR
      replace hR : i ≤ 64 := hR
      first | show W _ _ _ ⟨5, [(2, .p 0 0), (3, .p 1 0), (4, .p 2 0), (5, .p 3 0), (10, .p 4 0), (70, .ag (I .u32 tbl)), (71, .i .i64 i), (1000000, .rp (I .u32 tbl))], [(0, .blk 83 (I .u32 s)), (1, .blk 73 (I .u8 b)), (2, .blk 83 (I .u32 (List.replicate 8 0))), (3, .blk 108 (I .u32 (wordsOf b))), (4, .blk 83 (I .u32 (rounds tbl (wordsOf b) i s)))]⟩ | skip
      have htl : tbl.length = 64 := rfl
      have hl := length_rounds tbl (wordsOf b) s hs8 i
      have hr := W32_rounds (ks := tbl) (ws := wordsOf b) hs i
      have hlw := length_words b
      refine wsr ?_
      refine wp rfl hC t_11 ?_
      refine WL_nil ?_
      refine W_seq ?_
      refine W_cond rfl (by decide) (fun hc => ?_) (fun hc => ?_)
      ·
        replace hc := lss_t hc
        refine W_skip ?_
        refine W_seq ?_
        refine W_blk ?_
        refine wsr ?_
        refine wp rfl hC t_1 ?_
        refine wp rfl hC (ox_index hC  (.tmp rfl) (.tmp rfl) elt_108 t_u t_2 t_d t_2 t_3m rfl rfl) ?_
        refine wp rfl hC t_4 ?_
        refine wp rfl hC t_4 ?_
        refine WL_nil ?_
        refine W_seq ?_
        refine W_drawD hC ?_
        refine WD_cons (.plain rfl (ox_indexA hC (j := 0) (.tmp rfl) .cint idx_83 rfl t_2 t_d t_34 rfl rfl)) ?_
        refine WD_cons (.plain rfl t_6q) ?_
        refine WD_cons (.plain rfl (ox_indexA hC (j := 4) (.tmp rfl) .cint idx_83 rfl t_2 t_d t_34 rfl rfl)) ?_
        refine WD_cons (.plain rfl t_6q) ?_
        refine WD_cons (.plain rfl t_4) ?_
        refine WD_cons (.plain rfl t_4) ?_
        refine WD_nil t_x ?_
        refine W_seq ?_
        refine W_drawD hC ?_
        refine WD_cons (.plain rfl (ox_indexA hC (j := 7) (.tmp rfl) .cint idx_83 rfl t_2 t_d t_34 rfl rfl)) ?_
        refine WD_cons (.plain rfl t_6q) ?_
        refine WD_cons (.plain rfl t_1) ?_
        refine WD_cons (.plain rfl (oc_call hC (.cons (.tmp rfl) (.cons .cint .nil)) (.cons1 (.free t_0) (.cons1 (.free t_0) (.same t_0))) (turn_c _ _ 6 rfl (hr.get _) (by decide) (by decide)) glob_nil t_0 t_8 rfl rfl)) ?_
        refine WD_cons (.plain rfl t_1) ?_
        refine WD_cons (.plain rfl (oc_call hC (.cons (.tmp rfl) (.cons .cint .nil)) (.cons1 (.free t_0) (.cons1 (.free t_0) (.same t_0))) (turn_c _ _ 11 rfl (hr.get _) (by decide) (by decide)) glob_nil t_0 t_8 rfl rfl)) ?_
        refine WD_cons (.plain rfl t_1h) ?_
        refine WD_cons (.plain rfl t_1) ?_
        refine WD_cons (.plain rfl (oc_call hC (.cons (.tmp rfl) (.cons .cint .nil)) (.cons1 (.free t_0) (.cons1 (.free t_0) (.same t_0))) (turn_c _ _ 25 rfl (hr.get _) (by decide) (by decide)) glob_nil t_0 t_8 rfl rfl)) ?_
        refine WD_cons (.plain rfl t_1h) ?_
        refine WD_cons (.plain rfl t_21) ?_
        refine WD_cons (.plain rfl t_1) ?_
        refine WD_cons (.plain rfl (ox_indexA hC (j := 5) (.tmp rfl) .cint idx_83 rfl t_2 t_d t_34 rfl rfl)) ?_
        refine WD_cons (.plain rfl t_6q) ?_
        refine WD_cons (.plain rfl t_1h) ?_
        refine WD_cons (.plain rfl t_1) ?_
        refine WD_cons (.plain rfl (oc_neg hC (.inr rfl) (.tmp rfl) rfl rfl rfl)) ?_
        refine WD_cons (.plain rfl (ox_indexA hC (j := 6) (.tmp rfl) .cint idx_83 rfl t_2 t_d t_34 rfl rfl)) ?_
        refine WD_cons (.plain rfl t_6q) ?_
        refine WD_cons (.plain rfl t_1h) ?_
        refine WD_cons (.plain rfl (oc_bin hC rfl (.tmp rfl) (.tmp rfl) (r := chW ((rounds tbl (wordsOf b) i s).getD 4 0) ((rounds tbl (wordsOf b) i s).getD 5 0) ((rounds tbl (wordsOf b) i s).getD 6 0)) (by unfold chW; exact ch_eq (hr.get _)) rfl rfl)) ?_
        refine WD_cons (.plain rfl t_21) ?_
        refine WD_cons (.plain rfl t_1) ?_
        refine WD_cons (.plain rfl t_21) ?_
        refine WD_cons (.plain rfl t_1) ?_
        refine WD_cons (.plain rfl (ox_indexA hC  (.tmp rfl) (.tmp rfl) idx_108 t_u t_2 t_d t_34 rfl rfl)) ?_
        refine WD_cons (.plain rfl t_6q) ?_
        refine WD_cons (.plain rfl (oc_bin hC rfl (.tmp rfl) (.tmp rfl) (r := tW (tbl.getD i 0) ((wordsOf b).getD i 0) (rounds tbl (wordsOf b) i s)) tW_raw rfl rfl)) ?_
        refine WD_cons (.plain rfl t_4) ?_
        refine WD_nil t_x ?_
        refine W_seq ?_
        refine W_drawD hC ?_
        refine WD_cons (.plain rfl t_1) ?_
        refine WD_cons (.plain rfl (oc_call hC (.cons (.tmp rfl) (.cons .cint .nil)) (.cons1 (.free t_0) (.cons1 (.free t_0) (.same t_0))) (turn_c _ _ 2 rfl (hr.get _) (by decide) (by decide)) glob_nil t_0 t_8 rfl rfl)) ?_
        refine WD_cons (.plain rfl t_1) ?_
        refine WD_cons (.plain rfl (oc_call hC (.cons (.tmp rfl) (.cons .cint .nil)) (.cons1 (.free t_0) (.cons1 (.free t_0) (.same t_0))) (turn_c _ _ 13 rfl (hr.get _) (by decide) (by decide)) glob_nil t_0 t_8 rfl rfl)) ?_
        refine WD_cons (.plain rfl t_1h) ?_
        refine WD_cons (.plain rfl t_1) ?_
        refine WD_cons (.plain rfl (oc_call hC (.cons (.tmp rfl) (.cons .cint .nil)) (.cons1 (.free t_0) (.cons1 (.free t_0) (.same t_0))) (turn_c _ _ 22 rfl (hr.get _) (by decide) (by decide)) glob_nil t_0 t_8 rfl rfl)) ?_
        refine WD_cons (.plain rfl t_1h) ?_
        refine WD_cons (.plain rfl t_1) ?_
        refine WD_cons (.plain rfl t_7s) ?_
        refine WD_cons (.plain rfl t_6q) ?_
        refine WD_cons (.plain rfl t_1h) ?_
        refine WD_cons (.plain rfl t_1) ?_
        refine WD_cons (.plain rfl t_7t) ?_
        refine WD_cons (.plain rfl t_6q) ?_
        refine WD_cons (.plain rfl t_1h) ?_
        refine WD_cons (.plain rfl t_1h) ?_
        refine WD_cons (.plain rfl t_7s) ?_
        refine WD_cons (.plain rfl t_6q) ?_
        refine WD_cons (.plain rfl t_7t) ?_
        refine WD_cons (.plain rfl t_6q) ?_
        refine WD_cons (.plain rfl t_1h) ?_
        refine WD_cons (.plain rfl t_1h) ?_
        refine WD_cons (.plain rfl (oc_bin hC rfl (.tmp rfl) (.tmp rfl) (r := uW (rounds tbl (wordsOf b) i s)) (by show IntKind.u32.wrap _ = _; rw [u32_wrap]; unfold uW bsig0 majW; rfl) rfl rfl)) ?_
        refine WD_cons (.plain rfl t_4) ?_
        refine WD_nil t_x ?_
        refine W_region ?_
        refine wp rfl hC t_1 ?_
        refine wp rfl hC t_1 ?_
        refine wp rfl hC t_21 ?_
        refine wp rfl hC t_1 ?_
        refine wp rfl hC t_7s ?_
        refine wp rfl hC t_6q ?_
        refine wp rfl hC t_7t ?_
        refine wp rfl hC t_6q ?_
        refine wp rfl hC (ox_indexA hC (j := 3) (.tmp rfl) .cint idx_83 rfl t_2 t_d t_34 rfl rfl) ?_
        refine wp rfl hC t_6q ?_
        refine wp rfl hC t_1 ?_
        refine wp rfl hC t_21 ?_
        refine wp rfl hC t_1 ?_
        refine wp rfl hC (ox_indexA hC (j := 5) (.tmp rfl) .cint idx_83 rfl t_2 t_d t_34 rfl rfl) ?_
        refine wp rfl hC t_6q ?_
        refine wp rfl hC (ox_indexA hC (j := 6) (.tmp rfl) .cint idx_83 rfl t_2 t_d t_34 rfl rfl) ?_
        refine wp rfl hC t_6q ?_
        refine wp rfl hC (ox_arr hC (.cons (.tmp rfl) (.cons (.tmp rfl) (.cons (.tmp rfl) (.cons (.tmp rfl) (.cons (.tmp rfl) (.cons (.tmp rfl) (.cons (.tmp rfl) (.cons (.tmp rfl) .nil)))))))) Tryd.underlying83 cells_63 zero_83 t_5 bld_83 rfl rfl t_5 rfl rfl) ?_
        refine wp rfl hC (ox_store hC (.tmp rfl) (.tmp rfl) rfl shp_83 t_h t_18 t_s (put_all (by rw [length_I]; exact hl)) t_f rfl) ?_
        refine WL_nil ?_
        refine W_region ?_
        refine wp rfl hC t_36 ?_
        refine wp rfl hC t_1 ?_
        refine WL_nil ?_
        exact ⟨(i + 1), (by omega), (weak (fun k => k) (.cons rfl t_5 t_6 (.cons rfl t_5 t_6 (.cons rfl t_5 t_6 (.cons rfl t_5 t_6 (.cons rfl t_5 t_6 (.cons rfl t_30 t_0 (.cons rfl t_2y trivial (.cons rfl t_30 t_0 .nil)))))))) (.cons rfl t_g rfl t_0 (.cons rfl t_g rfl t_0 (.cons rfl t_g rfl t_0 (.cons rfl t_g rfl t_0 (.cons rfl (ren_blkI.trans rounds_blk) rfl t_0 .nil))))) rfl rfl rfl), (by omega)⟩
      ·
        replace hc := lss_f hc
        refine W_exit ?_
        refine W_seq ?_
        refine wsr ?_
        refine wp rfl hC t_1l ?_
        refine WL_nil ?_
        refine W_blk ?_
        obtain rfl : i = 64 := by omega
        have hl := length_rounds tbl (wordsOf b) s hs8 64
        refine W_loopW (fun (ζ : Nat) => ⟨5, [(2, .p 0 0), (3, .p 1 0), (4, .p 2 0), (5, .p 3 0), (10, .p 4 0), (150, .i .i64 ζ), (1000000, .rp (I .u32 tbl))], [(0, .blk 83 (I .u32 s)), (1, .blk 73 (I .u8 b)), (2, .blk 83 (I .u32 (List.replicate 8 0))), (3, .blk 108 (I .u32 (wordsOf b))), (4, .blk 83 (I .u32 (addP s (rounds tbl (wordsOf b) 64 s) ζ)))]⟩) (fun ζ => ζ ≤ 8) (fun ζ => 8 - ζ) (0) (by simp) (weak (fun k => k) (.cons rfl t_5 t_6 (.cons rfl t_5 t_6 (.cons rfl t_5 t_6 (.cons rfl t_5 t_6 (.cons rfl t_5 t_6 (.cons rfl rfl trivial (.cons rfl t_30 t_0 .nil))))))) (.cons rfl t_g rfl t_0 (.cons rfl t_g rfl t_0 (.cons rfl t_g rfl t_0 (.cons rfl t_g rfl t_0 (.cons rfl (renBlk (addP_zero _ _)) rfl t_0 .nil))))) rfl rfl rfl) ?_
        intro i hR
        replace hR : i ≤ 8 := hR
        first | show W _ _ _ ⟨5, [(2, .p 0 0), (3, .p 1 0), (4, .p 2 0), (5, .p 3 0), (10, .p 4 0), (150, .i .i64 i), (1000000, .rp (I .u32 tbl))], [(0, .blk 83 (I .u32 s)), (1, .blk 73 (I .u8 b)), (2, .blk 83 (I .u32 (List.replicate 8 0))), (3, .blk 108 (I .u32 (wordsOf b))), (4, .blk 83 (I .u32 (addP s (rounds tbl (wordsOf b) 64 s) i)))]⟩ | skip
        have hla := length_addP (s := s) hl (i := i) (by omega)
        refine wsr ?_
        refine wp rfl hC t_11 ?_
        refine WL_nil ?_
        refine W_seq ?_
        refine W_cond rfl (by decide) (fun hc => ?_) (fun hc => ?_)
        ·
          replace hc := lss_t hc
          refine W_skip ?_
          refine W_seq ?_
          refine W_blk ?_
          refine wsr ?_
          refine wp rfl hC t_1 ?_
          refine wp rfl hC t_4 ?_
          refine WL_nil ?_
          refine W_drawD hC ?_
          refine WD_cons (.plain rfl t_1) ?_
          refine WD_cons (.plain rfl t_7r) ?_
          refine WD_cons (.plain rfl t_6q) ?_
          refine WD_cons (.plain rfl t_1) ?_
          refine WD_cons (.plain rfl t_7r) ?_
          refine WD_cons (.plain rfl t_6q) ?_
          refine WD_cons (.plain rfl t_21) ?_
          refine WD_cons (.plain rfl t_7r) ?_
          refine WD_cons (.plain rfl t_7e) ?_
          refine WD_nil t_x ?_
          refine W_region ?_
          refine wp rfl hC t_36 ?_
          refine wp rfl hC t_1 ?_
          refine WL_nil ?_
          exact ⟨(i + 1), (by omega), (weak (fun k => k) (.cons rfl t_5 t_6 (.cons rfl t_5 t_6 (.cons rfl t_5 t_6 (.cons rfl t_5 t_6 (.cons rfl t_5 t_6 (.cons rfl t_2y trivial (.cons rfl t_30 t_0 .nil))))))) (.cons rfl t_g rfl t_0 (.cons rfl t_g rfl t_0 (.cons rfl t_g rfl t_0 (.cons rfl t_g rfl t_0 (.cons rfl (renBlk (addP_succ hl (by omega)).symm) rfl t_0 .nil))))) rfl rfl rfl), (by omega)⟩
        ·
          replace hc := lss_f hc
          refine W_exit ?_
          refine wsr ?_
          obtain rfl : i = 8 := by omega
          have hla := length_addP (s := s) hl (i := 8) (by omega)
          refine wp rfl hC t_7k ?_
          refine wp rfl hC t_7n ?_
          refine WL_nil ?_
          refine W_ret ?_
          exact fin0 (.cons (.cell rfl (.p rfl) shp_83 (unit_all hla)) .nil) (congrArg (fun l => AV.ag (I .u32 l)) ((addP_end hl).trans (by unfold blockM; rfl))) t_0
set_option maxRecDepth 20000 in
set_option maxHeartbeats 4000000 in
theorem pad_c (n : Nat) (hn : n ≤ 1099511627776) : FnC Tryd.prog 58 [] [.i .i64 n] [] [(0, .row 5 1 (9 + padZ n) (I .u8 (padM n)))] (.row 0) := by
  have hz := padZ_lt n
  refine FnC.introR (N0 := 0) (T := 33) (E := [(0, .i .i64 n)]) Tryd.func58 rfl (by decide) mix rfl rfl rfl (by simp) rfl ⟨t_b, trivial⟩ (by simp) (by
        intro S ha hr hw
        have s0 : S 0 := hw 0 t_17 t_5
        refine ⟨by first | exact inSL_I _ | simp [s0], fun k b hm => ?_⟩
        simp only [List.mem_cons, Prod.mk.injEq, List.not_mem_nil, or_false] at hm
        rcases hm with ⟨rfl, rfl⟩
        · exact ⟨s0, by first | exact inSL_I _ | simp [s0]⟩) (fun F n0 X w ρ hC hro => ?_)
  refine wsr ?_
  refine wp rfl hC t_v ?_
  refine WL_nil ?_
  refine W_seq ?_
  refine wsr ?_
  refine wp rfl hC t_1 ?_
  refine wp rfl hC t_11 ?_
  refine WL_nil ?_
  refine W_cond rfl (by decide) (fun hc => ?_) (fun hc => ?_)
  ·
    replace hc := lss_t hc
    exfalso
    omega
  ·
    replace hc := lss_f hc
    refine W_skip ?_
    refine wsr ?_
    refine wp rfl hC (ox_litR hC (.cons .cint .nil) Tryd.underlying22 cells_5 zero_5 rfl (by decide) rfl rfl t_5 rfl rfl) ?_
    refine wp rfl hC t_4 ?_
    refine WL_nil ?_
    refine W_seq ?_
    refine W_blk ?_
    refine W_loopW (fun (ζ : Nat) => ⟨1, [(0, .i .i64 n), (3, .row 0)], [(0, .row 5 1 (1 + ζ) (I .u8 (128 :: List.replicate ζ 0)))]⟩) (fun ζ => ζ ≤ padZ n) (fun ζ => padZ n - ζ) (0) (Nat.zero_le _) (weak (fun k => k) (.cons rfl t_2y trivial (.cons rfl t_5 t_6 .nil)) (.cons rfl rfl rfl t_0 .nil) rfl rfl rfl) ?_
    intro i hR
    replace hR : i ≤ padZ n := hR
    first | show W _ _ _ ⟨1, [(0, .i .i64 n), (3, .row 0)], [(0, .row 5 1 (1 + i) (I .u8 (128 :: List.replicate i 0)))]⟩ | skip
    refine W_seq ?_
    refine wsr ?_
    refine wp rfl hC t_1 ?_
    refine wp rfl hC t_1 ?_
    refine wp rfl hC t_32 ?_
    refine wp rfl hC t_3p ?_
    refine wp rfl hC t_36 ?_
    refine wp rfl hC t_45 ?_
    refine wp rfl hC t_11 ?_
    replace hR : i ≤ padZ n := hR
    refine WL_nil ?_
    refine W_cond rfl (by decide) (fun hc => ?_) (fun hc => ?_)
    ·
      replace hc := neq_t hc
      have hne : i ≠ padZ n := fun e => hc (by have := padZ_all n; rw [← e] at this; omega)
      refine W_skip ?_
      refine W_blk ?_
      refine W_region ?_
      refine wp rfl hC t_1 ?_
      refine wp rfl hC t_5c ?_
      refine wp rfl hC t_6o ?_
      refine wp rfl hC t_4 ?_
      refine WL_nil ?_
      exact ⟨(i + 1), (by omega), (weak (fun k => bif Nat.beq k 0 then 1 else k) (.cons rfl t_2y trivial (.cons rfl t_5 t_6 .nil)) (.cons rfl (renRow (Nat.add_assoc 1 i 1).symm (rep_succ i).symm) rfl t_0 .nil) rfl rfl rfl), (by omega)⟩
    ·
      replace hc := neq_f hc
      obtain rfl : i = padZ n := padZ_end hR (by omega)
      refine W_exit ?_
      refine W_seq ?_
      refine wsr ?_
      refine wp rfl hC t_k ?_
      refine WL_nil ?_
      refine W_blk ?_
      refine W_loopW (fun (ζ : Nat) => ⟨1, [(0, .i .i64 n), (3, .row 0), (4, .i .i64 (7 - (ζ : Int)))], [(0, .row 5 1 (1 + padZ n + ζ) (I .u8 (padP n ζ)))]⟩) (fun ζ => ζ ≤ 8) (fun ζ => 8 - ζ) (0) (by simp) (weak (fun k => k) (.cons rfl t_2y trivial (.cons rfl t_5 t_6 (.cons rfl rfl trivial .nil))) (.cons rfl (renRow rfl (padP_zero n).symm) rfl t_0 .nil) rfl rfl rfl) ?_
      intro j hR
      replace hR : j ≤ 8 := hR
      first | show W _ _ _ ⟨1, [(0, .i .i64 n), (3, .row 0), (4, .i .i64 (7 - (j : Int)))], [(0, .row 5 1 (1 + padZ n + j) (I .u8 (padP n j)))]⟩ | skip
      refine W_seq ?_
      refine wsr ?_
      refine wp rfl hC t_1 ?_
      refine wp rfl hC t_11 ?_
      refine WL_nil ?_
      refine W_cond rfl (by decide) (fun hc => ?_) (fun hc => ?_)
      ·
        replace hc := geq_t hc
        refine W_skip ?_
        refine W_seq ?_
        refine W_blk ?_
        refine W_region ?_
        refine wp rfl hC t_1 ?_
        refine wp rfl hC t_1 ?_
        refine wp rfl hC (oc_conv hC (.tmp rfl) rfl Tryd.underlying50 (by first | exact u64_conv (by omega) | rfl) rfl rfl) ?_
        refine wp rfl hC (oc_bin hC rfl (.tmp rfl) .cint (r := binI .mul .u64 n 8) rfl rfl rfl) ?_
        refine wp rfl hC t_1 ?_
        refine wp rfl hC t_43 ?_
        refine wp rfl hC (oc_shift hC (.inr rfl) (.tmp rfl) (.tmp rfl) t_j rfl rfl rfl) ?_
        refine wp rfl hC (oc_conv hC (.tmp rfl) rfl Tryd.underlying5 (r := beB (8 * n) j) (pad_byte hn (by omega)) rfl rfl) ?_
        refine wp rfl hC t_3v ?_
        refine wp rfl hC t_6o ?_
        refine wp rfl hC t_4 ?_
        refine WL_nil ?_
        refine W_region ?_
        refine wp rfl hC t_1 ?_
        refine wp rfl hC t_40 ?_
        refine wp rfl hC t_4 ?_
        refine WL_nil ?_
        exact ⟨(j + 1), (by omega), (weak (fun k => bif Nat.beq k 0 then 1 else k) (.cons rfl t_2y trivial (.cons rfl t_5 t_6 (.cons rfl t_2y trivial .nil))) (.cons rfl (renRow (Nat.add_assoc (1 + padZ n) j 1).symm (padP_succ n j).symm) rfl t_0 .nil) rfl rfl rfl), (by omega)⟩
      ·
        replace hc := geq_f hc
        refine W_exit ?_
        refine wsr ?_
        obtain rfl : j = 8 := by omega
        rw [show 1 + padZ n + 8 = 9 + padZ n by omega]
        refine wp rfl hC t_1 ?_
        refine wp rfl hC t_4 ?_
        refine WL_nil ?_
        refine W_ret ?_
        exact fin1 (.cons (.tmp rfl) .nil) rfl (by unfold padM; rfl) (inSL_I _)
set_option maxRecDepth 20000 in
set_option maxHeartbeats 4000000 in
theorem of_c (ps : List (Nat × List Int)) (m : Nat) (hm : ps.length = m) (hm2 : m ≤ 4294967296) (hp : ∀ p ∈ ps, p.2.length = p.1 ∧ B8 p.2) (hl : (ps.map (·.2)).flatten.length ≤ 1099511627776) : FnC Tryd.prog 44 [(1000000, .rp (I .u32 tbl))] [.vs m (ps.map fun p => AV.vs p.1 (I .u8 p.2))] [] [] (.ag (I .u8 (sha tbl (ps.map (·.2)).flatten))) := by
  refine FnC.introR (N0 := 0) (T := 59) (E := [(0, .vs m (ps.map fun p => AV.vs p.1 (I .u8 p.2))), (1000000, .rp (I .u32 tbl))]) Tryd.func44 rfl (by decide) mix rfl rfl rfl (by simp) rfl (by simp only [AV.inSL, and_true]; exact inS_mono (fun _ h => h.elim) _ keyless_parts) (by simp) t_10 (fun F n0 X w ρ hC hro => ?_)
  refine wsr ?_
  refine wp rfl hC t_22 ?_
  refine WL_nil ?_
  refine wsr ?_
  refine wp rfl hC t_v ?_
  refine WL_nil ?_
  refine W_seq ?_
  refine wsr ?_
  refine wp rfl hC t_1 ?_
  refine wp rfl hC (ox_len hC (.tmp rfl) t_a Tryd.underlying68 rfl rfl rfl) ?_
  refine wp rfl hC t_1l ?_
  refine WL_nil ?_
  refine W_blk ?_
  refine W_weak (weak_nil (t := 3) (e := 5) (sz := 1) rfl) ?_
  refine W_loopW (fun (ζ : Nat) => ⟨2, [(2, .p 0 0), (3, .row 1), (11, .vs m (ps.map fun p => AV.vs p.1 (I .u8 p.2))), (12, .i .i64 m), (13, .i .i64 ζ), (1000000, .rp (I .u32 tbl))], [(0, .blk 25 (I .u8 (List.replicate 32 0))), (1, .row 5 1 ((ps.take ζ).map (·.2)).flatten.length (I .u8 ((ps.take ζ).map (·.2)).flatten))]⟩) (fun ζ => ζ ≤ ps.length) (fun ζ => ps.length - ζ) (0) (by simp) (weak (fun k => k) (.cons rfl t_5 t_6 (.cons rfl t_5 t_6 (.cons rfl (ren_free _ _ keyless_parts) (inS_mono (fun _ h => h.elim) _ keyless_parts) (.cons rfl t_2y trivial (.cons rfl rfl trivial (.cons rfl t_30 t_0 .nil)))))) (.cons rfl t_g rfl t_0 (.cons rfl (renRow rfl rfl) rfl t_0 .nil)) rfl rfl rfl) ?_
  intro i hR
  replace hR : i ≤ ps.length := hR
  first | show W _ _ _ ⟨2, [(2, .p 0 0), (3, .row 1), (11, .vs m (ps.map fun p => AV.vs p.1 (I .u8 p.2))), (12, .i .i64 m), (13, .i .i64 i), (1000000, .rp (I .u32 tbl))], [(0, .blk 25 (I .u8 (List.replicate 32 0))), (1, .row 5 1 ((ps.take i).map (·.2)).flatten.length (I .u8 ((ps.take i).map (·.2)).flatten))]⟩ | skip
  refine wsr ?_
  refine wp rfl hC t_1e ?_
  refine WL_nil ?_
  refine W_seq ?_
  refine W_cond rfl (by decide) (fun hc => ?_) (fun hc => ?_)
  ·
    replace hc := lss_t hc
    have hi : i < ps.length := by omega
    obtain ⟨h1, h2⟩ := hp (ps[i]) (List.getElem_mem hi)
    have hle := parts_le ps i hi
    refine W_skip ?_
    refine W_seq ?_
    refine W_blk ?_
    refine wsr ?_
    refine wp rfl hC (ox_indexS hC  (.tmp rfl) (.tmp rfl) idx_68 t_u t_d t_33 (by omega) rfl rfl) ?_
    refine wp rfl hC (oc_load hC (.tmp rfl) t_3 shp_22 (by exact (unit_get (parts_get hi))) rfl rfl) ?_
    refine wp rfl hC t_4 ?_
    refine WL_nil ?_
    refine W_region ?_
    refine wp rfl hC t_1 ?_
    refine wp rfl hC t_1 ?_
    refine wp rfl hC (ox_append hC (.tmp rfl) (.tmp rfl) t_35 t_a t_r Tryd.underlying22 cells_5 bytes_5 zero_5 rfl (by decide) t_15 t_t t_16 (app_I h1) t_n (by omega) rfl rfl) ?_
    refine wp rfl hC t_4 ?_
    refine WL_nil ?_
    refine W_region ?_
    refine wp rfl hC t_36 ?_
    refine wp rfl hC t_1 ?_
    refine WL_nil ?_
    exact ⟨(i + 1), (by omega), (weak (fun k => bif Nat.beq k 1 then 2 else k) (.cons rfl t_5 t_6 (.cons rfl t_5 t_6 (.cons rfl (ren_free _ _ keyless_parts) (inS_mono (fun _ h => h.elim) _ keyless_parts) (.cons rfl t_2y trivial (.cons rfl t_2y trivial (.cons rfl t_30 t_0 .nil)))))) (.cons rfl t_g rfl t_0 (.cons rfl (renRow (by rw [parts_succ hi, List.length_append, h1]) (parts_succ hi)) rfl t_0 .nil)) rfl rfl rfl), (by omega)⟩
  ·
    replace hc := lss_f hc
    obtain rfl : i = ps.length := by omega
    rw [List.take_length]
    have hM8 := B8_parts fun p h => (hp p h).2
    generalize hM : (ps.map (·.2)).flatten = M at *
    have hlp := length_padded M
    have hP := B8_padded hM8
    refine W_exit ?_
    refine wsr ?_
    refine wp rfl hC t_1 ?_
    refine wp rfl hC t_1 ?_
    refine wp rfl hC t_32 ?_
    refine wp rfl hC (oc_callN hC (.cons (.tmp rfl) .nil) (.cons1 (.free t_0) (.same t_0)) (pad_c _ hl) glob_nil t_0 rfl t_q rfl rfl) ?_
    have hpz := padZ_lt M.length
    have hlq := len_pad M.length
    refine wp rfl hC t_8a ?_
    refine wp rfl hC t_4 ?_
    refine WL_nil ?_
    refine wsr ?_
    refine wp rfl hC (oc_call hC .nil (.same t_0) (start_c) glob_nil t_0 t_8 rfl rfl) ?_
    refine wp rfl hC (ox_alloc hC zero_83 rfl rfl rfl) ?_
    refine wp rfl hC t_7n ?_
    refine WL_nil ?_
    refine W_seq ?_
    refine W_blk ?_
    refine W_weak (weak_sl (t := 3) rfl rfl) ?_
    refine W_loopW (fun (ζ : Nat) => ⟨3, [(2, .p 0 0), (3, .sl 1 (64 * ζ) (64 * (nblk M.length - ζ))), (6, .p 2 0), (1000000, .rp (I .u32 tbl))], [(0, .blk 25 (I .u8 (List.replicate 32 0))), (1, .row 5 1 (64 * nblk M.length) (I .u8 (paddedM M))), (2, .blk 83 (I .u32 (sumAt tbl (paddedM M) start8 ζ)))]⟩) (fun ζ => ζ ≤ nblk M.length) (fun ζ => nblk M.length - ζ) (0) (Nat.zero_le _) (weak (fun k => bif Nat.beq k 2 then 4 else bif Nat.beq k 1 then 3 else k) (.cons rfl t_5 t_6 (.cons rfl rfl t_6 (.cons rfl t_5 t_6 (.cons rfl t_30 t_0 .nil)))) (.cons rfl t_g rfl t_0 (.cons rfl t_g rfl t_0 (.cons rfl (renBlk sumAt_zero) rfl t_0 .nil))) rfl rfl rfl) ?_
    intro i hR
    replace hR : i ≤ nblk M.length := hR
    first | show W _ _ _ ⟨3, [(2, .p 0 0), (3, .sl 1 (64 * i) (64 * (nblk M.length - i))), (6, .p 2 0), (1000000, .rp (I .u32 tbl))], [(0, .blk 25 (I .u8 (List.replicate 32 0))), (1, .row 5 1 (64 * nblk M.length) (I .u8 (paddedM M))), (2, .blk 83 (I .u32 (sumAt tbl (paddedM M) start8 i)))]⟩ | skip
    have hsl := length_sumAt (ks := tbl) (m := paddedM M) (s := start8) rfl i
    have hsw := W32_sumAt (ks := tbl) (m := paddedM M) W32_start8 i
    refine W_seq ?_
    refine wsr ?_
    refine wp rfl hC t_1 ?_
    refine wp rfl hC t_32 ?_
    refine wp rfl hC t_11 ?_
    refine WL_nil ?_
    refine W_cond rfl (by decide) (fun hc => ?_) (fun hc => ?_)
    ·
      replace hc := gtr_t hc
      refine W_skip ?_
      refine W_seq ?_
      refine W_blk ?_
      refine W_drawD hC ?_
      refine WD_cons (.plain rfl t_7k) ?_
      refine WD_cons (.plain rfl t_1) ?_
      refine WD_cons (.plain rfl (oc_arr hC (.tmp rfl) idx_73 t_4u (by decide) t_2 rfl rfl)) ?_
      refine WD_cons (.plain rfl (oc_load hC (.tmp rfl) t_3 shp_73 t_48 rfl rfl)) ?_
      refine WD_cons (.plain rfl (oc_call hC (.cons (.tmp rfl) (.cons (.tmp rfl) .nil)) (.cons1 (.free t_0) (.cons1 (.free t_0) (.same t_0))) (dblock_c _ _ hsl t_7 hsw (B8_cut hP _ _)) (glob_cons rfl rfl t_0 glob_nil) t_0 t_8 rfl rfl)) ?_
      refine WD_cons (.plain rfl (ox_store hC (.tmp rfl) (.tmp rfl) rfl shp_83 t_h (by rw [cells_ag, length_I, length_block]) t_s (put_allI (by rw [length_block]; exact hsl)) t_f rfl)) ?_
      refine WD_nil t_x ?_
      refine W_region ?_
      refine wp rfl hC t_1 ?_
      refine wp rfl hC (ox_cutS hC (.tmp rfl) (.yes (n := 64) .cint rfl) .no idx_22 t_3w t_2 t_2 t_1b rfl rfl) ?_
      refine wp rfl hC t_4 ?_
      refine WL_nil ?_
      exact ⟨(i + 1), (by omega), (weak (fun k => k) (.cons rfl t_5 t_6 (.cons rfl (by show AV.sl 1 _ _ = AV.sl 1 _ _; congr 1 <;> omega) t_6 (.cons rfl t_5 t_6 (.cons rfl t_30 t_0 .nil)))) (.cons rfl t_g rfl t_0 (.cons rfl t_g rfl t_0 (.cons rfl (renBlk sumAt_succ) rfl t_0 .nil))) rfl rfl rfl), (by omega)⟩
    ·
      replace hc := gtr_f hc
      obtain rfl : i = nblk M.length := by omega
      refine W_exit ?_
      refine wsr ?_
      refine wp rfl hC t_22 ?_
      refine WL_nil ?_
      refine W_seq ?_
      refine wsr ?_
      refine wp rfl hC t_7k ?_
      refine wp rfl hC t_1l ?_
      refine WL_nil ?_
      refine W_blk ?_
      refine W_loopW (fun (ζ : Nat) => ⟨4, [(2, .p 0 0), (7, .p 3 0), (37, .ag (I .u32 (sumAt tbl (paddedM M) start8 (nblk M.length)))), (38, .i .i64 ζ), (1000000, .rp (I .u32 tbl))], [(0, .blk 25 (I .u8 (List.replicate 32 0))), (3, .blk 25 (I .u8 (outP (sumAt tbl (paddedM M) start8 (nblk M.length)) (4 * ζ))))]⟩) (fun ζ => ζ ≤ 8) (fun ζ => 8 - ζ) (0) (by simp) (weak (fun k => k) (.cons rfl t_5 t_6 (.cons rfl t_5 t_6 (.cons rfl t_30 t_0 (.cons rfl rfl trivial (.cons rfl t_30 t_0 .nil))))) (.cons rfl t_g rfl t_0 (.cons rfl (renBlk outP_zero) rfl t_0 .nil)) rfl rfl rfl) ?_
      intro i hR
      replace hR : i ≤ 8 := hR
      first | show W _ _ _ ⟨4, [(2, .p 0 0), (7, .p 3 0), (37, .ag (I .u32 (sumAt tbl (paddedM M) start8 (nblk M.length)))), (38, .i .i64 i), (1000000, .rp (I .u32 tbl))], [(0, .blk 25 (I .u8 (List.replicate 32 0))), (3, .blk 25 (I .u8 (outP (sumAt tbl (paddedM M) start8 (nblk M.length)) (4 * i))))]⟩ | skip
      refine wsr ?_
      refine wp rfl hC t_11 ?_
      refine WL_nil ?_
      refine W_seq ?_
      refine W_cond rfl (by decide) (fun hc => ?_) (fun hc => ?_)
      ·
        replace hc := lss_t hc
        refine W_skip ?_
        refine W_seq ?_
        refine W_blk ?_
        refine wsr ?_
        refine wp rfl hC t_1 ?_
        refine wp rfl hC (ox_index hC  (.tmp rfl) (.tmp rfl) elt_83 t_u t_2 t_d t_2 t_3m rfl rfl) ?_
        refine wp rfl hC t_4 ?_
        refine wp rfl hC t_4 ?_
        refine WL_nil ?_
        refine wsr ?_
        refine wp rfl hC t_1l ?_
        refine WL_nil ?_
        refine W_blk ?_
        refine W_loopW (fun (ζ : Nat) => ⟨4, [(2, .p 0 0), (7, .p 3 0), (37, .ag (I .u32 (sumAt tbl (paddedM M) start8 (nblk M.length)))), (38, .i .i64 i), (8, .i .i64 i), (9, .i .u32 ((sumAt tbl (paddedM M) start8 (nblk M.length)).getD i 0)), (42, .i .i64 ζ), (1000000, .rp (I .u32 tbl))], [(0, .blk 25 (I .u8 (List.replicate 32 0))), (3, .blk 25 (I .u8 (outP (sumAt tbl (paddedM M) start8 (nblk M.length)) (4 * i + ζ))))]⟩) (fun ζ => ζ ≤ 4) (fun ζ => 4 - ζ) (0) (by simp) (weak (fun k => k) (.cons rfl t_5 t_6 (.cons rfl t_5 t_6 (.cons rfl t_30 t_0 (.cons rfl t_2y trivial (.cons rfl t_2y trivial (.cons rfl t_2y trivial (.cons rfl rfl trivial (.cons rfl t_30 t_0 .nil)))))))) (.cons rfl t_g rfl t_0 (.cons rfl (renBlk rfl) rfl t_0 .nil)) rfl rfl rfl) ?_
        intro k hR
        replace hR : k ≤ 4 := hR
        first | show W _ _ _ ⟨4, [(2, .p 0 0), (7, .p 3 0), (37, .ag (I .u32 (sumAt tbl (paddedM M) start8 (nblk M.length)))), (38, .i .i64 i), (8, .i .i64 i), (9, .i .u32 ((sumAt tbl (paddedM M) start8 (nblk M.length)).getD i 0)), (42, .i .i64 k), (1000000, .rp (I .u32 tbl))], [(0, .blk 25 (I .u8 (List.replicate 32 0))), (3, .blk 25 (I .u8 (outP (sumAt tbl (paddedM M) start8 (nblk M.length)) (4 * i + k))))]⟩ | skip
        have hlo := length_outP (s := sumAt tbl (paddedM M) start8 (nblk M.length)) (j := 4 * i + k) (by omega)
        refine wsr ?_
        refine wp rfl hC t_11 ?_
        refine WL_nil ?_
        refine W_seq ?_
        refine W_cond rfl (by decide) (fun hc => ?_) (fun hc => ?_)
        ·
          replace hc := lss_t hc
          refine W_skip ?_
          refine W_seq ?_
          refine W_blk ?_
          refine wsr ?_
          refine wp rfl hC t_1 ?_
          refine wp rfl hC t_4 ?_
          refine WL_nil ?_
          refine W_region ?_
          refine wp rfl hC t_1 ?_
          refine wp rfl hC t_43 ?_
          refine wp rfl hC t_1 ?_
          refine wp rfl hC t_3p ?_
          refine wp rfl hC t_1 ?_
          refine wp rfl hC t_1 ?_
          refine wp rfl hC t_43 ?_
          refine wp rfl hC (oc_bin hC rfl .cint (.tmp rfl) t_1o rfl rfl) ?_
          refine wp rfl hC (oc_shift hC (.inr rfl) (.tmp rfl) (.tmp rfl) t_j rfl rfl rfl) ?_
          refine wp rfl hC (oc_conv hC (.tmp rfl) rfl Tryd.underlying5 (r := outB (sumAt tbl (paddedM M) start8 (nblk M.length)) (4 * i + k)) (out_byte (by omega)) rfl rfl) ?_
          refine wp rfl hC (ox_indexA hC (j := 4 * i + k) (.tmp rfl) (.tmp rfl) idx_25 t_w t_2 t_d t_34 rfl rfl) ?_
          refine wp rfl hC (ox_store hC (.tmp rfl) (.tmp rfl) rfl shp_5 t_h t_18 (by show 4 * i + k + 1 ≤ (I .u8 _).length; rw [length_I, hlo]; omega) (put_blkI (by rw [hlo]; show 4 * i + k < 32; omega)) t_f rfl) ?_
          refine WL_nil ?_
          refine W_region ?_
          refine wp rfl hC t_36 ?_
          refine wp rfl hC t_1 ?_
          refine WL_nil ?_
          exact ⟨(k + 1), (by omega), (weak (fun k => k) (.cons rfl t_5 t_6 (.cons rfl t_5 t_6 (.cons rfl t_30 t_0 (.cons rfl t_2y trivial (.cons rfl t_2y trivial (.cons rfl t_2y trivial (.cons rfl t_2y trivial (.cons rfl t_30 t_0 .nil)))))))) (.cons rfl t_g rfl t_0 (.cons rfl (renBlk (outP_succ (j := 4 * i + k) (by omega)).symm) rfl t_0 .nil)) rfl rfl rfl), (by omega)⟩
        ·
          replace hc := lss_f hc
          obtain rfl : k = 4 := by omega
          refine W_exit ?_
          refine W_region ?_
          refine wp rfl hC t_36 ?_
          refine wp rfl hC t_1 ?_
          refine WL_nil ?_
          exact ⟨(i + 1), (by omega), (weak (fun k => k) (.cons rfl t_5 t_6 (.cons rfl t_5 t_6 (.cons rfl t_30 t_0 (.cons rfl t_2y trivial (.cons rfl t_30 t_0 .nil))))) (.cons rfl t_g rfl t_0 (.cons rfl (renBlk (congrArg (outP _) (by omega))) rfl t_0 .nil)) rfl rfl rfl), (by omega)⟩
      ·
        replace hc := lss_f hc
        obtain rfl : i = 8 := by omega
        have hlo := length_outP (s := sumAt tbl (paddedM M) start8 (nblk M.length)) (j := 4 * 8) (by omega)
        refine W_exit ?_
        refine wsr ?_
        refine wp rfl hC (oc_load hC (.tmp rfl) t_3 shp_25 t_48 rfl rfl) ?_
        refine wp rfl hC (ox_store hC (.tmp rfl) (.tmp rfl) rfl shp_25 t_h t_18 t_s (put_allI (by rw [hlo]; rfl)) t_f rfl) ?_
        refine WL_nil ?_
        refine W_ret ?_
        exact fin0 (.cons (.cell rfl (.p rfl) shp_25 (unit_blkI hlo)) .nil) (congrArg (fun l => AV.ag (I .u8 l)) (outP_end.trans (by unfold sha; rfl))) t_0
end Go.Proofs.YtfngpppghlbanaaDoor
