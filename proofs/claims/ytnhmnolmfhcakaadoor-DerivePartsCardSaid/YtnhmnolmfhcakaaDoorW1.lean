/- Own work, printed by a program of this claim: walks through functions of the program. -/
import Derived.Test.YtnhmnolmfhcakaaDoorD
import Derived.Test.YtnhmnolmfhcakaaDoorProg
import Derived.KernelRfl
set_option linter.unusedSimpArgs false
set_option linter.unusedVariables false
namespace Go.Proofs.YtnhmnolmfhcakaaDoor
open Go.Sk Go.RowKit
attribute [local simp] AV.inSL AV.inS inSL_I Blk.inS Blk.cs AV.novs AV.novsL novsL_I AV.ren AV.cells AV.one lk tuAV
theorem mix : Tryd.prog.follows .mixedOrders = true := by kernel_rfl
theorem bld_40 : bldOK Tryd.prog 40 = true := by kernel_rfl
theorem bytes_5 : (Tryd.prog.info? 5).map (·.bytes) = some 1 := by kernel_rfl
theorem cells_39 : Tryd.prog.cellsOf 39 = 1 := by kernel_rfl
theorem cells_5 : Tryd.prog.cellsOf 5 = 1 := by kernel_rfl
theorem elt_40 : elt Tryd.prog 40 = some (8, false, 1) := by kernel_rfl
theorem elt_48 : elt Tryd.prog 48 = some (64, false, 1) := by kernel_rfl
theorem idx_22 : idx Tryd.prog 22 = some (none, 1) := by kernel_rfl
theorem idx_24 : idx Tryd.prog 24 = some (some 32, 1) := by kernel_rfl
theorem idx_33 : idx Tryd.prog 33 = some (none, 1) := by kernel_rfl
theorem idx_40 : idx Tryd.prog 40 = some (some 8, 1) := by kernel_rfl
theorem idx_43 : idx Tryd.prog 43 = some (some 64, 1) := by kernel_rfl
theorem idx_48 : idx Tryd.prog 48 = some (some 64, 1) := by kernel_rfl
theorem shp_22 : shp Tryd.prog 22 = some (false, 1) := by kernel_rfl
theorem shp_24 : shp Tryd.prog 24 = some (true, 32) := by kernel_rfl
theorem shp_39 : shp Tryd.prog 39 = some (false, 1) := by kernel_rfl
theorem shp_40 : shp Tryd.prog 40 = some (true, 8) := by kernel_rfl
theorem shp_43 : shp Tryd.prog 43 = some (true, 64) := by kernel_rfl
theorem shp_48 : shp Tryd.prog 48 = some (true, 64) := by kernel_rfl
theorem shp_5 : shp Tryd.prog 5 = some (false, 1) := by kernel_rfl
theorem zero_24 : zeroAV Tryd.prog 24 = some (I .u8 (List.replicate 32 0)) := by kernel_rfl
theorem zero_40 : zeroAV Tryd.prog 40 = some (I .u32 (List.replicate 8 0)) := by kernel_rfl
theorem zero_48 : zeroAV Tryd.prog 48 = some (I .u32 (List.replicate 64 0)) := by kernel_rfl
theorem zero_5 : zeroAV Tryd.prog 5 = some [.i .u8 0] := by kernel_rfl

set_option maxRecDepth 20000 in
set_option maxHeartbeats 4000000 in
theorem rotl_c (x k : Int) : FnC Tryd.prog 36 [] [.i .u32 x, .i .i64 k] [] [] (.i .u32 (rotl32 x k)) := by
  refine FnC.intro (N0 := 0) (T := 17) (E := [(0, .i .u32 x), (1, .i .i64 k)]) Tryd.func36 rfl (by decide) mix rfl rfl rfl (by simp) rfl ⟨(by first | exact inSL_I _ | trivial | simp), (by first | exact inSL_I _ | trivial | simp), trivial⟩ (by simp) (by intro S _ _ h; simp) (fun F n0 X w ρ hC => ?_)
  refine W_seq ?_
  refine W_region ?_
  refine WL_cons hC.fn (.plain rfl (oc_assign hC .cint rfl rfl)) ?_
  refine WL_nil ?_
  refine W_seq ?_
  refine W_region ?_
  refine WL_cons hC.fn (.plain rfl (oc_move hC (.tmp rfl) rfl rfl)) ?_
  refine WL_cons hC.fn (.plain rfl (oc_conv hC (.tmp rfl) rfl Tryd.underlying51 (r := IntKind.u64.wrap k) rfl rfl rfl)) ?_
  refine WL_cons hC.fn (.plain rfl (oc_bin hC rfl (.tmp rfl) .cint rfl rfl rfl)) ?_
  refine WL_cons hC.fn (.plain rfl (oc_assign hC (.tmp rfl) rfl rfl)) ?_
  refine WL_nil ?_
  refine W_seq ?_
  refine W_region ?_
  refine WL_cons hC.fn (.plain rfl (oc_move hC (.tmp rfl) rfl rfl)) ?_
  refine WL_cons hC.fn (.plain rfl (oc_move hC (.tmp rfl) rfl rfl)) ?_
  refine WL_cons hC.fn (.plain rfl (oc_shift hC (.inl rfl) (.tmp rfl) (.tmp rfl) (wrap_u64_nonneg _) rfl rfl rfl)) ?_
  refine WL_cons hC.fn (.plain rfl (oc_move hC (.tmp rfl) rfl rfl)) ?_
  refine WL_cons hC.fn (.plain rfl (oc_move hC (.tmp rfl) rfl rfl)) ?_
  refine WL_cons hC.fn (.plain rfl (oc_bin hC rfl .cint (.tmp rfl) (r := binI .sub .u64 32 (rotS k)) rfl rfl rfl)) ?_
  refine WL_cons hC.fn (.plain rfl (oc_shift hC (.inr rfl) (.tmp rfl) (.tmp rfl) (wrap_u64_nonneg _) rfl rfl rfl)) ?_
  refine WL_cons hC.fn (.plain rfl (oc_bin hC rfl (.tmp rfl) (.tmp rfl) rfl rfl rfl)) ?_
  refine WL_cons hC.fn (.plain rfl (oc_assign hC (.tmp rfl) rfl rfl)) ?_
  refine WL_nil ?_
  refine W_ret ?_
  exact fin0 (.cons (.tmp rfl) .nil) (by first | rfl | (simp <;> fail)) (by first | exact inSL_I _ | simp)
set_option maxRecDepth 20000 in
set_option maxHeartbeats 4000000 in
theorem turn_c (x n : Int) (m : Nat) (hm : n = m) (hx : 0 ≤ x ∧ x < 4294967296) (h0 : 0 < m) (hn : m < 32) : FnC Tryd.prog 28 [] [.i .u32 x, .i .i64 n] [] [] (.i .u32 (ror x m)) := by
  have hv : rotl32 x (unI .neg .i64 n) = ror x m := by subst hm; exact rotl_ror hx h0 hn
  refine FnC.intro (N0 := 0) (T := 9) (E := [(0, .i .u32 x), (1, .i .i64 n)]) Tryd.func28 rfl (by decide) mix rfl rfl rfl (by simp) rfl ⟨(by first | exact inSL_I _ | trivial | simp), (by first | exact inSL_I _ | trivial | simp), trivial⟩ (by simp) (by intro S _ _ h; simp) (fun F n0 X w ρ hC => ?_)
  refine W_seq ?_
  refine W_region ?_
  refine WL_cons hC.fn (.plain rfl (oc_assign hC .cint rfl rfl)) ?_
  refine WL_nil ?_
  refine W_seq ?_
  refine W_region ?_
  refine WL_cons hC.fn (.plain rfl (oc_move hC (.tmp rfl) rfl rfl)) ?_
  refine WL_cons hC.fn (.plain rfl (oc_move hC (.tmp rfl) rfl rfl)) ?_
  refine WL_cons hC.fn (.plain rfl (oc_neg hC (.inl rfl) (.tmp rfl) rfl rfl rfl)) ?_
  refine WL_cons hC.fn (.plain rfl (oc_call hC (.cons (.tmp rfl) (.cons (.tmp rfl) .nil)) (.cons1 (.free (by first | exact inSL_I _ | simp)) (.cons1 (.free (by first | exact inSL_I _ | simp)) (.same (by first | exact inSL_I _ | simp)))) (rotl_c _ _) glob_nil (by first | exact inSL_I _ | simp) (by first | exact .inl rfl | exact .inr (by simp)) rfl rfl)) ?_
  refine WL_cons hC.fn (.plain rfl (oc_assign hC (.tmp rfl) rfl rfl)) ?_
  refine WL_nil ?_
  refine W_ret ?_
  exact fin0 (.cons (.tmp rfl) .nil) (congrArg (AV.i .u32) hv) (by first | exact inSL_I _ | simp)
set_option maxRecDepth 20000 in
set_option maxHeartbeats 4000000 in
theorem start_c  : FnC Tryd.prog 21 [] [] [] [] (.ag (I .u32 start8)) := by
  refine FnC.intro (N0 := 0) (T := 2) (E := []) Tryd.func21 rfl (by decide) mix rfl rfl rfl (by simp) rfl trivial (by simp) (by intro S _ _ h; simp) (fun F n0 X w ρ hC => ?_)
  refine W_seq ?_
  refine W_region ?_
  refine WL_cons hC.fn (.plain rfl (ox_alloc hC zero_40 rfl rfl rfl)) ?_
  refine WL_nil ?_
  refine W_seq ?_
  refine W_region ?_
  refine WL_cons hC.fn (.plain rfl (ox_arr hC (.cons .cint (.cons .cint (.cons .cint (.cons .cint (.cons .cint (.cons .cint (.cons .cint (.cons .cint .nil)))))))) Tryd.underlying40 cells_39 zero_40 (by first | rfl | simp) bld_40 rfl rfl (by first | rfl | simp) rfl rfl)) ?_
  refine WL_cons hC.fn (.plain rfl (ox_store hC (.tmp rfl) (.tmp rfl) rfl shp_40 (by first | rfl | exact flat_agI) (by first | exact cells1 rfl | (rw [cells_ag, length_I]; omega) | rfl | (simp <;> fail) | (simp; omega)) (by first | exact Nat.le_refl _ | decide | (simp <;> fail) | (simp; omega)) (by first | exact put_allI (by first | omega | (simp; omega)) | exact put_all (by rw [length_I]; first | omega | (simp; omega)) | exact put_all rfl) (by first | exact .here | exact .there (.here) rfl | exact .there (.there (.here) rfl) rfl | exact .there (.there (.there (.here) rfl) rfl) rfl | exact .there (.there (.there (.there (.here) rfl) rfl) rfl) rfl | exact .there (.there (.there (.there (.there (.here) rfl) rfl) rfl) rfl) rfl | exact .there (.there (.there (.there (.there (.there (.here) rfl) rfl) rfl) rfl) rfl) rfl | exact .there (.there (.there (.there (.there (.there (.there (.here) rfl) rfl) rfl) rfl) rfl) rfl) rfl | exact .there (.there (.there (.there (.there (.there (.there (.there (.here) rfl) rfl) rfl) rfl) rfl) rfl) rfl) rfl | exact .there (.there (.there (.there (.there (.there (.there (.there (.there (.here) rfl) rfl) rfl) rfl) rfl) rfl) rfl) rfl) rfl) rfl)) ?_
  refine WL_nil ?_
  refine W_ret ?_
  exact fin0 (.cons (.cell rfl (by first | exact .p rfl | exact .rp) shp_40 (by first | exact unit_blkI (by first | omega | (simp <;> fail) | (simp; omega)) | exact unit_rowI (by first | omega | (simp; omega)) | exact unit_all (by first | omega | (simp <;> fail) | (simp; omega)) | exact unit_takeI0 (by first | omega | (simp; omega)) | exact unit_takeI (by first | omega | (simp; omega)) | exact unit_agg rfl)) .nil) (by first | rfl | (simp <;> fail)) (by first | exact inSL_I _ | simp)
set_option maxRecDepth 20000 in
set_option maxHeartbeats 4000000 in
theorem word_c (b : List Int) (n : Nat) (hn : b.length = n) (h4 : 4 ≤ n) (hb : B8 b) : FnC Tryd.prog 27 [] [.vs n (I .u8 b)] [] [] (.i .u32 (word4 b 0)) := by
  have h0 := hb.get 0
  have h1 := hb.get 1
  have h2 := hb.get 2
  have h3 := hb.get 3
  refine FnC.intro (N0 := 0) (T := 25) (E := [(0, .vs n (I .u8 b))]) Tryd.func27 rfl (by decide) mix rfl rfl rfl (by simp) rfl ⟨(by first | exact inSL_I _ | trivial | simp), trivial⟩ (by simp) (by intro S _ _ h; simp) (fun F n0 X w ρ hC => ?_)
  refine W_seq ?_
  refine W_region ?_
  refine WL_cons hC.fn (.plain rfl (oc_assign hC .cint rfl rfl)) ?_
  refine WL_nil ?_
  refine W_seq ?_
  refine W_drawD hC ?_
  refine WD_cons (.plain rfl (oc_move hC (.tmp rfl) rfl rfl)) ?_
  refine WD_cons (.plain rfl (ox_indexS hC (j := 0) (.tmp rfl) .cint idx_22 rfl (by first | exact Nat.mul_one _ | rfl) (by first | exact .row rfl | exact .sl (Nat.zero_add _) | exact .sl rfl | exact .vs (by first | omega | (simp; omega))) (by first | omega | (simp; omega)) rfl rfl)) ?_
  refine WD_cons (.plain rfl (oc_load hC (.tmp rfl) (by first | exact .p rfl | exact .rp) shp_5 (by exact (unit_I (by first | omega | (simp; omega)))) rfl rfl)) ?_
  refine WD_cons (.plain rfl (oc_conv hC (.tmp rfl) rfl Tryd.underlying39 (by first | exact u32_conv (by omega) | rfl) rfl rfl)) ?_
  refine WD_cons (.plain rfl (oc_shift hC (.inl rfl) (.tmp rfl) .cint (by first | decide | omega) (shl_n (n := 24) rfl (by decide)) rfl rfl)) ?_
  refine WD_cons (.plain rfl (oc_move hC (.tmp rfl) rfl rfl)) ?_
  refine WD_cons (.plain rfl (ox_indexS hC (j := 1) (.tmp rfl) .cint idx_22 rfl (by first | exact Nat.mul_one _ | rfl) (by first | exact .row rfl | exact .sl (Nat.zero_add _) | exact .sl rfl | exact .vs (by first | omega | (simp; omega))) (by first | omega | (simp; omega)) rfl rfl)) ?_
  refine WD_cons (.plain rfl (oc_load hC (.tmp rfl) (by first | exact .p rfl | exact .rp) shp_5 (by exact (unit_I (by first | omega | (simp; omega)))) rfl rfl)) ?_
  refine WD_cons (.plain rfl (oc_conv hC (.tmp rfl) rfl Tryd.underlying39 (by first | exact u32_conv (by omega) | rfl) rfl rfl)) ?_
  refine WD_cons (.plain rfl (oc_shift hC (.inl rfl) (.tmp rfl) .cint (by first | decide | omega) (shl_n (n := 16) rfl (by decide)) rfl rfl)) ?_
  refine WD_cons (.plain rfl (oc_bin hC rfl (.tmp rfl) (.tmp rfl) rfl rfl rfl)) ?_
  refine WD_cons (.plain rfl (oc_move hC (.tmp rfl) rfl rfl)) ?_
  refine WD_cons (.plain rfl (ox_indexS hC (j := 2) (.tmp rfl) .cint idx_22 rfl (by first | exact Nat.mul_one _ | rfl) (by first | exact .row rfl | exact .sl (Nat.zero_add _) | exact .sl rfl | exact .vs (by first | omega | (simp; omega))) (by first | omega | (simp; omega)) rfl rfl)) ?_
  refine WD_cons (.plain rfl (oc_load hC (.tmp rfl) (by first | exact .p rfl | exact .rp) shp_5 (by first | exact unit_one rfl | exact unit_I (by first | omega | (simp; omega)) | exact unit_c rfl (by decide)) rfl rfl)) ?_
  refine WD_cons (.plain rfl (oc_conv hC (.tmp rfl) rfl Tryd.underlying39 (by first | exact u32_conv (by omega) | rfl) rfl rfl)) ?_
  refine WD_cons (.plain rfl (oc_shift hC (.inl rfl) (.tmp rfl) .cint (by first | decide | omega) (shl_n (n := 8) rfl (by decide)) rfl rfl)) ?_
  refine WD_cons (.plain rfl (oc_bin hC rfl (.tmp rfl) (.tmp rfl) rfl rfl rfl)) ?_
  refine WD_cons (.plain rfl (oc_move hC (.tmp rfl) rfl rfl)) ?_
  refine WD_cons (.plain rfl (ox_indexS hC (j := 3) (.tmp rfl) .cint idx_22 rfl (by first | exact Nat.mul_one _ | rfl) (by first | exact .row rfl | exact .sl (Nat.zero_add _) | exact .sl rfl | exact .vs (by first | omega | (simp; omega))) (by first | omega | (simp; omega)) rfl rfl)) ?_
  refine WD_cons (.plain rfl (oc_load hC (.tmp rfl) (by first | exact .p rfl | exact .rp) shp_5 (by exact (unit_I (by first | omega | (simp; omega)))) rfl rfl)) ?_
  refine WD_cons (.plain rfl (oc_conv hC (.tmp rfl) rfl Tryd.underlying39 (by first | exact u32_conv (by omega) | rfl) rfl rfl)) ?_
  refine WD_cons (.plain rfl (oc_bin hC rfl (.tmp rfl) (.tmp rfl) rfl rfl rfl)) ?_
  refine WD_cons (.plain rfl (oc_assign hC (.tmp rfl) rfl rfl)) ?_
  refine WD_nil (by kernel_rfl) ?_
  refine W_ret ?_
  exact fin0 (.cons (.tmp rfl) .nil) (congrArg (AV.i .u32) (by unfold word4; exact word_or h0 h1 h2 h3)) (by first | exact inSL_I _ | simp)
set_option maxRecDepth 20000 in
set_option maxHeartbeats 4000000 in
theorem block_c (s b : List Int) (hs8 : s.length = 8) (hb64 : b.length = 64) (hs : W32 s) (hb : B8 b) : FnC Tryd.prog 22 [(1000000, .rp (I .u32 tbl))] [.ag (I .u32 s), .ag (I .u8 b)] [] [] (.ag (I .u32 (blockM tbl s b))) := by
  refine FnC.intro (N0 := 0) (T := 163) (E := [(0, .ag (I .u32 s)), (1, .ag (I .u8 b)), (1000000, .rp (I .u32 tbl))]) Tryd.func22 rfl (by decide) mix rfl rfl rfl (by simp) rfl ⟨(by first | exact inSL_I _ | trivial | simp), (by first | exact inSL_I _ | trivial | simp), trivial⟩ (by simp) (by intro S _ _ h; simp) (fun F n0 X w ρ hC => ?_)
  refine W_seq ?_
  refine W_region ?_
  refine WL_cons hC.fn (.plain rfl (ox_box hC (.tmp rfl) (by first | rfl | exact flat_agI) (by first | exact cells_ag | rfl) rfl rfl)) ?_
  refine WL_cons hC.fn (.plain rfl (ox_box hC (.tmp rfl) (by first | rfl | exact flat_agI) (by first | exact cells_ag | rfl) rfl rfl)) ?_
  refine WL_cons hC.fn (.plain rfl (ox_alloc hC zero_40 rfl rfl rfl)) ?_
  refine WL_nil ?_
  refine W_seq ?_
  refine W_region ?_
  refine WL_cons hC.fn (.plain rfl (ox_alloc hC zero_48 rfl rfl rfl)) ?_
  refine WL_nil ?_
  refine W_seq ?_
  refine W_seq ?_
  refine W_region ?_
  refine WL_cons hC.fn (.plain rfl (oc_move hC .cint rfl rfl)) ?_
  refine WL_nil ?_
  refine W_blk ?_
  refine W_loopW (fun (ζ : Nat) => ⟨4, [(2, .p 0 0), (3, .p 1 0), (4, .p 2 0), (5, .p 3 0), (18, .i .i64 ζ), (1000000, .rp (I .u32 tbl))], [(0, .blk 40 (I .u32 s)), (1, .blk 43 (I .u8 b)), (2, .blk 40 (I .u32 (List.replicate 8 0))), (3, .blk 48 (I .u32 (wpre b ζ)))]⟩) (fun ζ => ζ ≤ 16) (fun ζ => 16 - ζ) (0) (by simp) (weak (fun k => k) (.cons rfl (by first | rfl | simp) (by show _ < _; decide) (.cons rfl (by first | rfl | simp) (by show _ < _; decide) (.cons rfl (by first | rfl | simp) (by show _ < _; decide) (.cons rfl (by first | rfl | simp) (by show _ < _; decide) (.cons rfl rfl trivial (.cons rfl (by first | exact ren_agI | exact ren_vsI | exact ren_free _ _ (by first | exact inSL_I _ | simp)) (by first | exact inSL_I _ | simp) .nil)))))) (.cons rfl (by first | exact ren_blkI | exact ren_rowI | rfl | exact Blk.ren_free (by simp) _) rfl (by first | exact inSL_I _ | simp) (.cons rfl (by first | exact ren_blkI | exact ren_rowI | rfl | exact Blk.ren_free (by simp) _) rfl (by first | exact inSL_I _ | simp) (.cons rfl (by first | exact ren_blkI | exact ren_rowI | rfl | exact Blk.ren_free (by simp) _) rfl (by first | exact inSL_I _ | simp) (.cons rfl (renBlk wpre_zero) rfl (by first | exact inSL_I _ | simp) .nil)))) rfl rfl rfl) ?_
  intro i hR
  replace hR : i ≤ 16 := hR
  first | show W _ _ _ ⟨4, [(2, .p 0 0), (3, .p 1 0), (4, .p 2 0), (5, .p 3 0), (18, .i .i64 i), (1000000, .rp (I .u32 tbl))], [(0, .blk 40 (I .u32 s)), (1, .blk 43 (I .u8 b)), (2, .blk 40 (I .u32 (List.replicate 8 0))), (3, .blk 48 (I .u32 (wpre b i)))]⟩ | skip
  have hlp := length_wpre (b := b) (i := i) (by omega)
  refine W_seq ?_
  refine W_region ?_
  refine WL_cons hC.fn (.plain rfl (ox_cmp hC rfl (.tmp rfl) .cint rfl rfl rfl)) ?_
  refine WL_nil ?_
  refine W_seq ?_
  refine W_cond rfl (by decide) (fun hc => ?_) (fun hc => ?_)
  ·
    replace hc := lss_t hc
    refine W_skip ?_
    refine W_seq ?_
    refine W_blk ?_
    refine W_seq ?_
    refine W_region ?_
    refine WL_cons hC.fn (.plain rfl (oc_move hC (.tmp rfl) rfl rfl)) ?_
    refine WL_cons hC.fn (.plain rfl (oc_assign hC (.tmp rfl) rfl rfl)) ?_
    refine WL_nil ?_
    refine W_region ?_
    refine WL_cons hC.fn (.plain rfl (oc_move hC (.tmp rfl) rfl rfl)) ?_
    refine WL_cons hC.fn (.plain rfl (oc_move hC (.tmp rfl) rfl rfl)) ?_
    refine WL_cons hC.fn (.plain rfl (oc_bin hC rfl .cint (.tmp rfl) (by first | exact i64_mul (by omega) | rfl) rfl rfl)) ?_
    refine WL_cons hC.fn (.plain rfl (ox_cutA hC (.tmp rfl) (.yes (n := 4 * i) (.tmp rfl) (by first | rfl | omega | (simp; omega))) .no idx_43 (by first | omega | (simp; omega)) (by first | omega | (simp; omega)) (by first | exact .p (by first | (simp <;> fail) | rfl) | exact .rp (by first | omega | (simp; omega))) (by first | exact cut_vsI | rfl) rfl rfl)) ?_
    refine WL_cons hC.fn (.plain rfl (oc_call hC (.cons (.tmp rfl) .nil) (.cons1 (by first | exact .free (by first | exact inSL_I _ | simp) | exact .row rfl rfl (by first | exact inSL_I _ | simp) | exact .nils | exact .sl1 rfl (by first | exact cut_I | rfl) (by first | exact inSL_I _ | simp)) (.same (by first | exact inSL_I _ | simp))) (word_c _ _ (by simp; omega) (by omega) (fun x hx => hb x (List.mem_of_mem_drop (List.mem_of_mem_take hx)))) glob_nil (by first | exact inSL_I _ | simp) (by first | exact .inl rfl | exact .inr (by simp)) rfl rfl)) ?_
    rw [word4_cut (by omega), show 0 + 4 * i * 1 = 4 * i by omega]
    refine WL_cons hC.fn (.plain rfl (ox_indexA hC  (.tmp rfl) (.tmp rfl) idx_48 (by first | rfl | exact toNat_up (by omega)) (by first | omega | (simp; omega)) (by first | exact Nat.mul_one _ | rfl) (by first | exact .p (Nat.zero_add _) | exact .p rfl | exact .rp (by first | omega | (simp; omega))) rfl rfl)) ?_
    refine WL_cons hC.fn (.plain rfl (ox_store hC (.tmp rfl) (.tmp rfl) rfl shp_39 (by first | rfl | exact flat_agI) (by first | exact cells1 rfl | (rw [cells_ag, length_I]; omega) | rfl | (simp <;> fail) | (simp; omega)) (by first | exact Nat.le_refl _ | decide | (simp <;> fail) | (simp; omega)) (by first | exact put_one rfl | exact put_blkI (by first | omega | (simp; omega)) | exact put_rowI (by first | omega | (simp; omega))) (by first | exact .here | exact .there (.here) rfl | exact .there (.there (.here) rfl) rfl | exact .there (.there (.there (.here) rfl) rfl) rfl | exact .there (.there (.there (.there (.here) rfl) rfl) rfl) rfl | exact .there (.there (.there (.there (.there (.here) rfl) rfl) rfl) rfl) rfl | exact .there (.there (.there (.there (.there (.there (.here) rfl) rfl) rfl) rfl) rfl) rfl | exact .there (.there (.there (.there (.there (.there (.there (.here) rfl) rfl) rfl) rfl) rfl) rfl) rfl | exact .there (.there (.there (.there (.there (.there (.there (.there (.here) rfl) rfl) rfl) rfl) rfl) rfl) rfl) rfl | exact .there (.there (.there (.there (.there (.there (.there (.there (.there (.here) rfl) rfl) rfl) rfl) rfl) rfl) rfl) rfl) rfl) rfl)) ?_
    refine WL_nil ?_
    refine W_region ?_
    refine WL_cons hC.fn (.plain rfl (oc_bin hC rfl (.tmp rfl) .cint (by first | exact i64_add (by omega) | rfl) rfl rfl)) ?_
    refine WL_cons hC.fn (.plain rfl (oc_move hC (.tmp rfl) rfl rfl)) ?_
    refine WL_nil ?_
    exact ⟨(i + 1), (by omega), (weak (fun k => k) (.cons rfl (by first | rfl | simp) (by show _ < _; decide) (.cons rfl (by first | rfl | simp) (by show _ < _; decide) (.cons rfl (by first | rfl | simp) (by show _ < _; decide) (.cons rfl (by first | rfl | simp) (by show _ < _; decide) (.cons rfl (by first | rfl | exact congrArg (AV.i _) (by omega) | exact congrArg (AV.i _) (by simp; omega)) trivial (.cons rfl (by first | exact ren_agI | exact ren_vsI | exact ren_free _ _ (by first | exact inSL_I _ | simp)) (by first | exact inSL_I _ | simp) .nil)))))) (.cons rfl (by first | exact ren_blkI | exact ren_rowI | rfl | exact Blk.ren_free (by simp) _) rfl (by first | exact inSL_I _ | simp) (.cons rfl (by first | exact ren_blkI | exact ren_rowI | rfl | exact Blk.ren_free (by simp) _) rfl (by first | exact inSL_I _ | simp) (.cons rfl (by first | exact ren_blkI | exact ren_rowI | rfl | exact Blk.ren_free (by simp) _) rfl (by first | exact inSL_I _ | simp) (.cons rfl (renBlk (wpre_succ (by omega)).symm) rfl (by first | exact inSL_I _ | simp) .nil)))) rfl rfl rfl), (by omega)⟩
  ·
    replace hc := lss_f hc
    refine W_exit ?_
    refine W_seq ?_
    refine W_seq ?_
    refine W_region ?_
    refine WL_cons hC.fn (.plain rfl (oc_assign hC .cint rfl rfl)) ?_
    refine WL_nil ?_
    refine W_blk ?_
    obtain rfl : i = 16 := by omega
    rw [wpre_spre]
    refine W_loopW (fun (ζ : Nat) => ⟨4, [(2, .p 0 0), (3, .p 1 0), (4, .p 2 0), (5, .p 3 0), (7, .i .i64 (16 + ζ)), (1000000, .rp (I .u32 tbl))], [(0, .blk 40 (I .u32 s)), (1, .blk 43 (I .u8 b)), (2, .blk 40 (I .u32 (List.replicate 8 0))), (3, .blk 48 (I .u32 (spre b ζ)))]⟩) (fun ζ => ζ ≤ 48) (fun ζ => 48 - ζ) (0) (by simp) (weak (fun k => k) (.cons rfl (by first | rfl | simp) (by show _ < _; decide) (.cons rfl (by first | rfl | simp) (by show _ < _; decide) (.cons rfl (by first | rfl | simp) (by show _ < _; decide) (.cons rfl (by first | rfl | simp) (by show _ < _; decide) (.cons rfl rfl trivial (.cons rfl (by first | exact ren_agI | exact ren_vsI | exact ren_free _ _ (by first | exact inSL_I _ | simp)) (by first | exact inSL_I _ | simp) .nil)))))) (.cons rfl (by first | exact ren_blkI | exact ren_rowI | rfl | exact Blk.ren_free (by simp) _) rfl (by first | exact inSL_I _ | simp) (.cons rfl (by first | exact ren_blkI | exact ren_rowI | rfl | exact Blk.ren_free (by simp) _) rfl (by first | exact inSL_I _ | simp) (.cons rfl (by first | exact ren_blkI | exact ren_rowI | rfl | exact Blk.ren_free (by simp) _) rfl (by first | exact inSL_I _ | simp) (.cons rfl (by first | exact ren_blkI | exact ren_rowI | rfl | exact Blk.ren_free (by simp) _) rfl (by first | exact inSL_I _ | simp) .nil)))) rfl rfl rfl) ?_
    intro j hR
    replace hR : j ≤ 48 := hR
    first | show W _ _ _ ⟨4, [(2, .p 0 0), (3, .p 1 0), (4, .p 2 0), (5, .p 3 0), (7, .i .i64 (16 + j)), (1000000, .rp (I .u32 tbl))], [(0, .blk 40 (I .u32 s)), (1, .blk 43 (I .u8 b)), (2, .blk 40 (I .u32 (List.replicate 8 0))), (3, .blk 48 (I .u32 (spre b j)))]⟩ | skip
    have hlp := length_spre (b := b) (j := j) (by omega)
    have hw := W32_spre hb j
    refine W_seq ?_
    refine W_seq ?_
    refine W_region ?_
    refine WL_cons hC.fn (.plain rfl (oc_move hC (.tmp rfl) rfl rfl)) ?_
    refine WL_cons hC.fn (.plain rfl (ox_cmp hC rfl (.tmp rfl) .cint rfl rfl rfl)) ?_
    refine WL_nil ?_
    refine W_cond rfl (by decide) (fun hc => ?_) (fun hc => ?_)
    ·
      replace hc := lss_t hc
      refine W_skip ?_
      refine W_seq ?_
      refine W_blk ?_
      refine W_seq ?_
      refine W_drawD hC ?_
      refine WD_cons (.plain rfl (oc_move hC (.tmp rfl) rfl rfl)) ?_
      refine WD_cons (.plain rfl (oc_bin hC rfl (.tmp rfl) .cint (by first | exact i64_sub (by omega) | rfl) rfl rfl)) ?_
      refine WD_cons (.plain rfl (ox_indexA hC (j := 1 + j) (.tmp rfl) (.tmp rfl) idx_48 (by first | rfl | omega | (simp; omega)) (by first | omega | (simp; omega)) (by first | exact Nat.mul_one _ | rfl) (by first | exact .p (Nat.zero_add _) | exact .p rfl | exact .rp (by first | omega | (simp; omega))) rfl rfl)) ?_
      refine WD_cons (.plain rfl (oc_load hC (.tmp rfl) (by first | exact .p rfl | exact .rp) shp_39 (by exact (unit_I (by first | omega | (simp; omega)))) rfl rfl)) ?_
      refine WD_cons (.plain rfl (oc_move hC (.tmp rfl) rfl rfl)) ?_
      refine WD_cons (.plain rfl (oc_bin hC rfl (.tmp rfl) .cint (by first | exact i64_sub (by omega) | rfl) rfl rfl)) ?_
      refine WD_cons (.plain rfl (ox_indexA hC (j := 14 + j) (.tmp rfl) (.tmp rfl) idx_48 (by first | rfl | omega | (simp; omega)) (by first | omega | (simp; omega)) (by first | exact Nat.mul_one _ | rfl) (by first | exact .p (Nat.zero_add _) | exact .p rfl | exact .rp (by first | omega | (simp; omega))) rfl rfl)) ?_
      refine WD_cons (.plain rfl (oc_load hC (.tmp rfl) (by first | exact .p rfl | exact .rp) shp_39 (by exact (unit_I (by first | omega | (simp; omega)))) rfl rfl)) ?_
      refine WD_cons (.plain rfl (oc_assign hC (.tmp rfl) rfl rfl)) ?_
      refine WD_cons (.plain rfl (oc_assign hC (.tmp rfl) rfl rfl)) ?_
      refine WD_nil (by kernel_rfl) ?_
      refine W_drawD hC ?_
      refine WD_cons (.plain rfl (oc_move hC (.tmp rfl) rfl rfl)) ?_
      refine WD_cons (.plain rfl (oc_move hC (.tmp rfl) rfl rfl)) ?_
      refine WD_cons (.plain rfl (oc_bin hC rfl (.tmp rfl) .cint (by first | exact i64_sub (by omega) | rfl) rfl rfl)) ?_
      refine WD_cons (.plain rfl (ox_indexA hC (j := j) (.tmp rfl) (.tmp rfl) idx_48 (by first | rfl | omega | (simp; omega)) (by first | omega | (simp; omega)) (by first | exact Nat.mul_one _ | rfl) (by first | exact .p (Nat.zero_add _) | exact .p rfl | exact .rp (by first | omega | (simp; omega))) rfl rfl)) ?_
      refine WD_cons (.plain rfl (oc_load hC (.tmp rfl) (by first | exact .p rfl | exact .rp) shp_39 (by exact (unit_I (by first | omega | (simp; omega)))) rfl rfl)) ?_
      refine WD_cons (.plain rfl (oc_move hC (.tmp rfl) rfl rfl)) ?_
      refine WD_cons (.plain rfl (oc_call hC (.cons (.tmp rfl) (.cons .cint .nil)) (.cons1 (.free (by first | exact inSL_I _ | simp)) (.cons1 (.free (by first | exact inSL_I _ | simp)) (.same (by first | exact inSL_I _ | simp)))) (turn_c _ _ 7 rfl (hw.get _) (by decide) (by decide)) glob_nil (by first | exact inSL_I _ | simp) (by first | exact .inl rfl | exact .inr (by simp)) rfl rfl)) ?_
      refine WD_cons (.plain rfl (oc_move hC (.tmp rfl) rfl rfl)) ?_
      refine WD_cons (.plain rfl (oc_call hC (.cons (.tmp rfl) (.cons .cint .nil)) (.cons1 (.free (by first | exact inSL_I _ | simp)) (.cons1 (.free (by first | exact inSL_I _ | simp)) (.same (by first | exact inSL_I _ | simp)))) (turn_c _ _ 18 rfl (hw.get _) (by decide) (by decide)) glob_nil (by first | exact inSL_I _ | simp) (by first | exact .inl rfl | exact .inr (by simp)) rfl rfl)) ?_
      refine WD_cons (.plain rfl (oc_bin hC rfl (.tmp rfl) (.tmp rfl) rfl rfl rfl)) ?_
      refine WD_cons (.plain rfl (oc_move hC (.tmp rfl) rfl rfl)) ?_
      refine WD_cons (.plain rfl (oc_shift hC (.inr rfl) (.tmp rfl) .cint (by first | decide | omega) (shr_n (n := 3) rfl (by decide)) rfl rfl)) ?_
      refine WD_cons (.plain rfl (oc_bin hC rfl (.tmp rfl) (.tmp rfl) rfl rfl rfl)) ?_
      refine WD_cons (.plain rfl (oc_bin hC rfl (.tmp rfl) (.tmp rfl) (u32_wrap _) rfl rfl)) ?_
      refine WD_cons (.plain rfl (oc_move hC (.tmp rfl) rfl rfl)) ?_
      refine WD_cons (.plain rfl (oc_bin hC rfl (.tmp rfl) .cint (by first | exact i64_sub (by omega) | rfl) rfl rfl)) ?_
      refine WD_cons (.plain rfl (ox_indexA hC (j := 9 + j) (.tmp rfl) (.tmp rfl) idx_48 (by first | rfl | omega | (simp; omega)) (by first | omega | (simp; omega)) (by first | exact Nat.mul_one _ | rfl) (by first | exact .p (Nat.zero_add _) | exact .p rfl | exact .rp (by first | omega | (simp; omega))) rfl rfl)) ?_
      refine WD_cons (.plain rfl (oc_load hC (.tmp rfl) (by first | exact .p rfl | exact .rp) shp_39 (by exact (unit_I (by first | omega | (simp; omega)))) rfl rfl)) ?_
      refine WD_cons (.plain rfl (oc_bin hC rfl (.tmp rfl) (.tmp rfl) (u32_wrap _) rfl rfl)) ?_
      refine WD_cons (.plain rfl (oc_move hC (.tmp rfl) rfl rfl)) ?_
      refine WD_cons (.plain rfl (oc_call hC (.cons (.tmp rfl) (.cons .cint .nil)) (.cons1 (.free (by first | exact inSL_I _ | simp)) (.cons1 (.free (by first | exact inSL_I _ | simp)) (.same (by first | exact inSL_I _ | simp)))) (turn_c _ _ 17 rfl (hw.get _) (by decide) (by decide)) glob_nil (by first | exact inSL_I _ | simp) (by first | exact .inl rfl | exact .inr (by simp)) rfl rfl)) ?_
      refine WD_cons (.plain rfl (oc_move hC (.tmp rfl) rfl rfl)) ?_
      refine WD_cons (.plain rfl (oc_call hC (.cons (.tmp rfl) (.cons .cint .nil)) (.cons1 (.free (by first | exact inSL_I _ | simp)) (.cons1 (.free (by first | exact inSL_I _ | simp)) (.same (by first | exact inSL_I _ | simp)))) (turn_c _ _ 19 rfl (hw.get _) (by decide) (by decide)) glob_nil (by first | exact inSL_I _ | simp) (by first | exact .inl rfl | exact .inr (by simp)) rfl rfl)) ?_
      refine WD_cons (.plain rfl (oc_bin hC rfl (.tmp rfl) (.tmp rfl) rfl rfl rfl)) ?_
      refine WD_cons (.plain rfl (oc_move hC (.tmp rfl) rfl rfl)) ?_
      refine WD_cons (.plain rfl (oc_shift hC (.inr rfl) (.tmp rfl) .cint (by first | decide | omega) (shr_n (n := 10) rfl (by decide)) rfl rfl)) ?_
      refine WD_cons (.plain rfl (oc_bin hC rfl (.tmp rfl) (.tmp rfl) rfl rfl rfl)) ?_
      refine WD_cons (.plain rfl (oc_bin hC rfl (.tmp rfl) (.tmp rfl) (u32_wrap _) rfl rfl)) ?_
      refine WD_cons (.plain rfl (ox_indexA hC (j := 16 + j) (.tmp rfl) (.tmp rfl) idx_48 (by first | rfl | omega | (simp; omega)) (by first | omega | (simp; omega)) (by first | exact Nat.mul_one _ | rfl) (by first | exact .p (Nat.zero_add _) | exact .p rfl | exact .rp (by first | omega | (simp; omega))) rfl rfl)) ?_
      refine WD_cons (.plain rfl (ox_store hC (.tmp rfl) (.tmp rfl) rfl shp_39 (by first | rfl | exact flat_agI) (by first | exact cells1 rfl | (rw [cells_ag, length_I]; omega) | rfl | (simp <;> fail) | (simp; omega)) (by first | exact Nat.le_refl _ | decide | (simp <;> fail) | (simp; omega)) (by first | exact put_one rfl | exact put_blkI (by first | omega | (simp; omega)) | exact put_rowI (by first | omega | (simp; omega))) (by first | exact .here | exact .there (.here) rfl | exact .there (.there (.here) rfl) rfl | exact .there (.there (.there (.here) rfl) rfl) rfl | exact .there (.there (.there (.there (.here) rfl) rfl) rfl) rfl | exact .there (.there (.there (.there (.there (.here) rfl) rfl) rfl) rfl) rfl | exact .there (.there (.there (.there (.there (.there (.here) rfl) rfl) rfl) rfl) rfl) rfl | exact .there (.there (.there (.there (.there (.there (.there (.here) rfl) rfl) rfl) rfl) rfl) rfl) rfl | exact .there (.there (.there (.there (.there (.there (.there (.there (.here) rfl) rfl) rfl) rfl) rfl) rfl) rfl) rfl | exact .there (.there (.there (.there (.there (.there (.there (.there (.there (.here) rfl) rfl) rfl) rfl) rfl) rfl) rfl) rfl) rfl) rfl)) ?_
      refine WD_nil (by kernel_rfl) ?_
      refine W_region ?_
      refine WL_cons hC.fn (.plain rfl (oc_move hC (.tmp rfl) rfl rfl)) ?_
      refine WL_cons hC.fn (.plain rfl (oc_bin hC rfl (.tmp rfl) .cint (by first | exact i64_add (by omega) | rfl) rfl rfl)) ?_
      refine WL_cons hC.fn (.plain rfl (oc_assign hC (.tmp rfl) rfl rfl)) ?_
      refine WL_nil ?_
      exact ⟨(j + 1), (by omega), (weak (fun k => k) (.cons rfl (by first | rfl | simp) (by show _ < _; decide) (.cons rfl (by first | rfl | simp) (by show _ < _; decide) (.cons rfl (by first | rfl | simp) (by show _ < _; decide) (.cons rfl (by first | rfl | simp) (by show _ < _; decide) (.cons rfl (by first | rfl | exact congrArg (AV.i _) (by omega) | exact congrArg (AV.i _) (by simp; omega)) trivial (.cons rfl (by first | exact ren_agI | exact ren_vsI | exact ren_free _ _ (by first | exact inSL_I _ | simp)) (by first | exact inSL_I _ | simp) .nil)))))) (.cons rfl (by first | exact ren_blkI | exact ren_rowI | rfl | exact Blk.ren_free (by simp) _) rfl (by first | exact inSL_I _ | simp) (.cons rfl (by first | exact ren_blkI | exact ren_rowI | rfl | exact Blk.ren_free (by simp) _) rfl (by first | exact inSL_I _ | simp) (.cons rfl (by first | exact ren_blkI | exact ren_rowI | rfl | exact Blk.ren_free (by simp) _) rfl (by first | exact inSL_I _ | simp) (.cons rfl (renBlk (spre_succ (by omega)).symm) rfl (by first | exact inSL_I _ | simp) .nil)))) rfl rfl rfl), (by omega)⟩
    ·
      replace hc := lss_f hc
      refine W_exit ?_
      refine W_seq ?_
      refine W_region ?_
      obtain rfl : j = 48 := by omega
      rw [spre_end]
      refine WL_cons hC.fn (.plain rfl (oc_load hC (.tmp rfl) (by first | exact .p rfl | exact .rp) shp_40 (by first | exact unit_blkI (by first | omega | (simp <;> fail) | (simp; omega)) | exact unit_rowI (by first | omega | (simp; omega)) | exact unit_all (by first | omega | (simp <;> fail) | (simp; omega)) | exact unit_takeI0 (by first | omega | (simp; omega)) | exact unit_takeI (by first | omega | (simp; omega)) | exact unit_agg rfl) rfl rfl)) ?_
      refine WL_cons hC.fn (.plain rfl (ox_alloc hC zero_40 rfl rfl rfl)) ?_
      refine WL_cons hC.fn (.plain rfl (ox_store hC (.tmp rfl) (.tmp rfl) rfl shp_40 (by first | rfl | exact flat_agI) (by first | exact cells1 rfl | (rw [cells_ag, length_I]; omega) | rfl | (simp <;> fail) | (simp; omega)) (by first | exact Nat.le_refl _ | decide | (simp <;> fail) | (simp; omega)) (by first | exact put_allI (by first | omega | (simp; omega)) | exact put_all (by rw [length_I]; first | omega | (simp; omega)) | exact put_all rfl) (by first | exact .here | exact .there (.here) rfl | exact .there (.there (.here) rfl) rfl | exact .there (.there (.there (.here) rfl) rfl) rfl | exact .there (.there (.there (.there (.here) rfl) rfl) rfl) rfl | exact .there (.there (.there (.there (.there (.here) rfl) rfl) rfl) rfl) rfl | exact .there (.there (.there (.there (.there (.there (.here) rfl) rfl) rfl) rfl) rfl) rfl | exact .there (.there (.there (.there (.there (.there (.there (.here) rfl) rfl) rfl) rfl) rfl) rfl) rfl | exact .there (.there (.there (.there (.there (.there (.there (.there (.here) rfl) rfl) rfl) rfl) rfl) rfl) rfl) rfl | exact .there (.there (.there (.there (.there (.there (.there (.there (.there (.here) rfl) rfl) rfl) rfl) rfl) rfl) rfl) rfl) rfl) rfl)) ?_
      refine WL_nil ?_
      refine W_seq ?_
      refine W_seq ?_
      refine W_region ?_
      refine WL_cons hC.fn (.plain rfl (oc_load hC (.glob rfl) (by first | exact .p rfl | exact .rp) shp_48 (by exact (unit_all rfl)) rfl rfl)) ?_
      refine WL_cons hC.fn (.plain rfl (oc_move hC .cint rfl rfl)) ?_
      refine WL_nil ?_
      refine W_blk ?_
      
      refine W_loopW (fun (ζ : Nat) => ⟨5, [(2, .p 0 0), (3, .p 1 0), (4, .p 2 0), (5, .p 3 0), (10, .p 4 0), (70, .ag (I .u32 tbl)), (71, .i .i64 ζ), (1000000, .rp (I .u32 tbl))], [(0, .blk 40 (I .u32 s)), (1, .blk 43 (I .u8 b)), (2, .blk 40 (I .u32 (List.replicate 8 0))), (3, .blk 48 (I .u32 (wordsOf b))), (4, .blk 40 (I .u32 (rounds tbl (wordsOf b) ζ s)))]⟩) (fun ζ => ζ ≤ 64) (fun ζ => 64 - ζ) (0) (by simp) (weak (fun k => k) (.cons rfl (by first | rfl | simp) (by show _ < _; decide) (.cons rfl (by first | rfl | simp) (by show _ < _; decide) (.cons rfl (by first | rfl | simp) (by show _ < _; decide) (.cons rfl (by first | rfl | simp) (by show _ < _; decide) (.cons rfl (by first | rfl | simp) (by show _ < _; decide) (.cons rfl (by first | exact ren_agI | exact ren_vsI | exact ren_free _ _ (by first | exact inSL_I _ | simp)) (by first | exact inSL_I _ | simp) (.cons rfl rfl trivial (.cons rfl (by first | exact ren_agI | exact ren_vsI | exact ren_free _ _ (by first | exact inSL_I _ | simp)) (by first | exact inSL_I _ | simp) .nil)))))))) (.cons rfl (by first | exact ren_blkI | exact ren_rowI | rfl | exact Blk.ren_free (by simp) _) rfl (by first | exact inSL_I _ | simp) (.cons rfl (by first | exact ren_blkI | exact ren_rowI | rfl | exact Blk.ren_free (by simp) _) rfl (by first | exact inSL_I _ | simp) (.cons rfl (by first | exact ren_blkI | exact ren_rowI | rfl | exact Blk.ren_free (by simp) _) rfl (by first | exact inSL_I _ | simp) (.cons rfl (by first | exact ren_blkI | exact ren_rowI | rfl | exact Blk.ren_free (by simp) _) rfl (by first | exact inSL_I _ | simp) (.cons rfl (renBlk rounds_zero) rfl (by first | exact inSL_I _ | simp) .nil))))) rfl rfl rfl) ?_
      intro i hR
      replace hR : i ≤ 64 := hR
      first | show W _ _ _ ⟨5, [(2, .p 0 0), (3, .p 1 0), (4, .p 2 0), (5, .p 3 0), (10, .p 4 0), (70, .ag (I .u32 tbl)), (71, .i .i64 i), (1000000, .rp (I .u32 tbl))], [(0, .blk 40 (I .u32 s)), (1, .blk 43 (I .u8 b)), (2, .blk 40 (I .u32 (List.replicate 8 0))), (3, .blk 48 (I .u32 (wordsOf b))), (4, .blk 40 (I .u32 (rounds tbl (wordsOf b) i s)))]⟩ | skip
      have htl : tbl.length = 64 := rfl
      have hl := length_rounds tbl (wordsOf b) s hs8 i
      have hr := W32_rounds (ks := tbl) (ws := wordsOf b) hs i
      have hlw := length_words b
      refine W_seq ?_
      refine W_region ?_
      refine WL_cons hC.fn (.plain rfl (ox_cmp hC rfl (.tmp rfl) .cint rfl rfl rfl)) ?_
      refine WL_nil ?_
      refine W_seq ?_
      refine W_cond rfl (by decide) (fun hc => ?_) (fun hc => ?_)
      ·
        replace hc := lss_t hc
        refine W_skip ?_
        refine W_seq ?_
        refine W_blk ?_
        refine W_seq ?_
        refine W_region ?_
        refine WL_cons hC.fn (.plain rfl (oc_move hC (.tmp rfl) rfl rfl)) ?_
        refine WL_cons hC.fn (.plain rfl (ox_index hC  (.tmp rfl) (.tmp rfl) elt_48 (by first | rfl | exact toNat_up (by omega)) (by first | omega | (simp; omega)) (by first | exact Nat.mul_one _ | rfl) (by first | omega | (simp; omega)) (by first | exact unit_one rfl | exact unit_I (by first | omega | (simp; omega)) | exact unit_c rfl (by decide)) rfl rfl)) ?_
        refine WL_cons hC.fn (.plain rfl (oc_assign hC (.tmp rfl) rfl rfl)) ?_
        refine WL_cons hC.fn (.plain rfl (oc_assign hC (.tmp rfl) rfl rfl)) ?_
        refine WL_nil ?_
        refine W_seq ?_
        refine W_drawD hC ?_
        refine WD_cons (.plain rfl (ox_indexA hC (j := 0) (.tmp rfl) .cint idx_40 rfl (by first | omega | (simp; omega)) (by first | exact Nat.mul_one _ | rfl) (by first | exact .p (Nat.zero_add _) | exact .p rfl | exact .rp (by first | omega | (simp; omega))) rfl rfl)) ?_
        refine WD_cons (.plain rfl (oc_load hC (.tmp rfl) (by first | exact .p rfl | exact .rp) shp_39 (by first | exact unit_one rfl | exact unit_I (by first | omega | (simp; omega)) | exact unit_c rfl (by decide)) rfl rfl)) ?_
        refine WD_cons (.plain rfl (ox_indexA hC (j := 4) (.tmp rfl) .cint idx_40 rfl (by first | omega | (simp; omega)) (by first | exact Nat.mul_one _ | rfl) (by first | exact .p (Nat.zero_add _) | exact .p rfl | exact .rp (by first | omega | (simp; omega))) rfl rfl)) ?_
        refine WD_cons (.plain rfl (oc_load hC (.tmp rfl) (by first | exact .p rfl | exact .rp) shp_39 (by first | exact unit_one rfl | exact unit_I (by first | omega | (simp; omega)) | exact unit_c rfl (by decide)) rfl rfl)) ?_
        refine WD_cons (.plain rfl (oc_assign hC (.tmp rfl) rfl rfl)) ?_
        refine WD_cons (.plain rfl (oc_assign hC (.tmp rfl) rfl rfl)) ?_
        refine WD_nil (by kernel_rfl) ?_
        refine W_seq ?_
        refine W_drawD hC ?_
        refine WD_cons (.plain rfl (ox_indexA hC (j := 7) (.tmp rfl) .cint idx_40 rfl (by first | omega | (simp; omega)) (by first | exact Nat.mul_one _ | rfl) (by first | exact .p (Nat.zero_add _) | exact .p rfl | exact .rp (by first | omega | (simp; omega))) rfl rfl)) ?_
        refine WD_cons (.plain rfl (oc_load hC (.tmp rfl) (by first | exact .p rfl | exact .rp) shp_39 (by first | exact unit_one rfl | exact unit_I (by first | omega | (simp; omega)) | exact unit_c rfl (by decide)) rfl rfl)) ?_
        refine WD_cons (.plain rfl (oc_move hC (.tmp rfl) rfl rfl)) ?_
        refine WD_cons (.plain rfl (oc_call hC (.cons (.tmp rfl) (.cons .cint .nil)) (.cons1 (.free (by first | exact inSL_I _ | simp)) (.cons1 (.free (by first | exact inSL_I _ | simp)) (.same (by first | exact inSL_I _ | simp)))) (turn_c _ _ 6 rfl (hr.get _) (by decide) (by decide)) glob_nil (by first | exact inSL_I _ | simp) (by first | exact .inl rfl | exact .inr (by simp)) rfl rfl)) ?_
        refine WD_cons (.plain rfl (oc_move hC (.tmp rfl) rfl rfl)) ?_
        refine WD_cons (.plain rfl (oc_call hC (.cons (.tmp rfl) (.cons .cint .nil)) (.cons1 (.free (by first | exact inSL_I _ | simp)) (.cons1 (.free (by first | exact inSL_I _ | simp)) (.same (by first | exact inSL_I _ | simp)))) (turn_c _ _ 11 rfl (hr.get _) (by decide) (by decide)) glob_nil (by first | exact inSL_I _ | simp) (by first | exact .inl rfl | exact .inr (by simp)) rfl rfl)) ?_
        refine WD_cons (.plain rfl (oc_bin hC rfl (.tmp rfl) (.tmp rfl) rfl rfl rfl)) ?_
        refine WD_cons (.plain rfl (oc_move hC (.tmp rfl) rfl rfl)) ?_
        refine WD_cons (.plain rfl (oc_call hC (.cons (.tmp rfl) (.cons .cint .nil)) (.cons1 (.free (by first | exact inSL_I _ | simp)) (.cons1 (.free (by first | exact inSL_I _ | simp)) (.same (by first | exact inSL_I _ | simp)))) (turn_c _ _ 25 rfl (hr.get _) (by decide) (by decide)) glob_nil (by first | exact inSL_I _ | simp) (by first | exact .inl rfl | exact .inr (by simp)) rfl rfl)) ?_
        refine WD_cons (.plain rfl (oc_bin hC rfl (.tmp rfl) (.tmp rfl) rfl rfl rfl)) ?_
        refine WD_cons (.plain rfl (oc_bin hC rfl (.tmp rfl) (.tmp rfl) (u32_wrap _) rfl rfl)) ?_
        refine WD_cons (.plain rfl (oc_move hC (.tmp rfl) rfl rfl)) ?_
        refine WD_cons (.plain rfl (ox_indexA hC (j := 5) (.tmp rfl) .cint idx_40 rfl (by first | omega | (simp; omega)) (by first | exact Nat.mul_one _ | rfl) (by first | exact .p (Nat.zero_add _) | exact .p rfl | exact .rp (by first | omega | (simp; omega))) rfl rfl)) ?_
        refine WD_cons (.plain rfl (oc_load hC (.tmp rfl) (by first | exact .p rfl | exact .rp) shp_39 (by first | exact unit_one rfl | exact unit_I (by first | omega | (simp; omega)) | exact unit_c rfl (by decide)) rfl rfl)) ?_
        refine WD_cons (.plain rfl (oc_bin hC rfl (.tmp rfl) (.tmp rfl) rfl rfl rfl)) ?_
        refine WD_cons (.plain rfl (oc_move hC (.tmp rfl) rfl rfl)) ?_
        refine WD_cons (.plain rfl (oc_neg hC (.inr rfl) (.tmp rfl) rfl rfl rfl)) ?_
        refine WD_cons (.plain rfl (ox_indexA hC (j := 6) (.tmp rfl) .cint idx_40 rfl (by first | omega | (simp; omega)) (by first | exact Nat.mul_one _ | rfl) (by first | exact .p (Nat.zero_add _) | exact .p rfl | exact .rp (by first | omega | (simp; omega))) rfl rfl)) ?_
        refine WD_cons (.plain rfl (oc_load hC (.tmp rfl) (by first | exact .p rfl | exact .rp) shp_39 (by first | exact unit_one rfl | exact unit_I (by first | omega | (simp; omega)) | exact unit_c rfl (by decide)) rfl rfl)) ?_
        refine WD_cons (.plain rfl (oc_bin hC rfl (.tmp rfl) (.tmp rfl) rfl rfl rfl)) ?_
        refine WD_cons (.plain rfl (oc_bin hC rfl (.tmp rfl) (.tmp rfl) (r := chW ((rounds tbl (wordsOf b) i s).getD 4 0) ((rounds tbl (wordsOf b) i s).getD 5 0) ((rounds tbl (wordsOf b) i s).getD 6 0)) (by unfold chW; exact ch_eq (hr.get _)) rfl rfl)) ?_
        refine WD_cons (.plain rfl (oc_bin hC rfl (.tmp rfl) (.tmp rfl) (u32_wrap _) rfl rfl)) ?_
        refine WD_cons (.plain rfl (oc_move hC (.tmp rfl) rfl rfl)) ?_
        refine WD_cons (.plain rfl (oc_bin hC rfl (.tmp rfl) (.tmp rfl) (u32_wrap _) rfl rfl)) ?_
        refine WD_cons (.plain rfl (oc_move hC (.tmp rfl) rfl rfl)) ?_
        refine WD_cons (.plain rfl (ox_indexA hC  (.tmp rfl) (.tmp rfl) idx_48 (by first | rfl | exact toNat_up (by omega)) (by first | omega | (simp; omega)) (by first | exact Nat.mul_one _ | rfl) (by first | exact .p (Nat.zero_add _) | exact .p rfl | exact .rp (by first | omega | (simp; omega))) rfl rfl)) ?_
        refine WD_cons (.plain rfl (oc_load hC (.tmp rfl) (by first | exact .p rfl | exact .rp) shp_39 (by first | exact unit_one rfl | exact unit_I (by first | omega | (simp; omega)) | exact unit_c rfl (by decide)) rfl rfl)) ?_
        refine WD_cons (.plain rfl (oc_bin hC rfl (.tmp rfl) (.tmp rfl) (r := tW (tbl.getD i 0) ((wordsOf b).getD i 0) (rounds tbl (wordsOf b) i s)) tW_raw rfl rfl)) ?_
        refine WD_cons (.plain rfl (oc_assign hC (.tmp rfl) rfl rfl)) ?_
        refine WD_nil (by kernel_rfl) ?_
        refine W_seq ?_
        refine W_drawD hC ?_
        refine WD_cons (.plain rfl (oc_move hC (.tmp rfl) rfl rfl)) ?_
        refine WD_cons (.plain rfl (oc_call hC (.cons (.tmp rfl) (.cons .cint .nil)) (.cons1 (.free (by first | exact inSL_I _ | simp)) (.cons1 (.free (by first | exact inSL_I _ | simp)) (.same (by first | exact inSL_I _ | simp)))) (turn_c _ _ 2 rfl (hr.get _) (by decide) (by decide)) glob_nil (by first | exact inSL_I _ | simp) (by first | exact .inl rfl | exact .inr (by simp)) rfl rfl)) ?_
        refine WD_cons (.plain rfl (oc_move hC (.tmp rfl) rfl rfl)) ?_
        refine WD_cons (.plain rfl (oc_call hC (.cons (.tmp rfl) (.cons .cint .nil)) (.cons1 (.free (by first | exact inSL_I _ | simp)) (.cons1 (.free (by first | exact inSL_I _ | simp)) (.same (by first | exact inSL_I _ | simp)))) (turn_c _ _ 13 rfl (hr.get _) (by decide) (by decide)) glob_nil (by first | exact inSL_I _ | simp) (by first | exact .inl rfl | exact .inr (by simp)) rfl rfl)) ?_
        refine WD_cons (.plain rfl (oc_bin hC rfl (.tmp rfl) (.tmp rfl) rfl rfl rfl)) ?_
        refine WD_cons (.plain rfl (oc_move hC (.tmp rfl) rfl rfl)) ?_
        refine WD_cons (.plain rfl (oc_call hC (.cons (.tmp rfl) (.cons .cint .nil)) (.cons1 (.free (by first | exact inSL_I _ | simp)) (.cons1 (.free (by first | exact inSL_I _ | simp)) (.same (by first | exact inSL_I _ | simp)))) (turn_c _ _ 22 rfl (hr.get _) (by decide) (by decide)) glob_nil (by first | exact inSL_I _ | simp) (by first | exact .inl rfl | exact .inr (by simp)) rfl rfl)) ?_
        refine WD_cons (.plain rfl (oc_bin hC rfl (.tmp rfl) (.tmp rfl) rfl rfl rfl)) ?_
        refine WD_cons (.plain rfl (oc_move hC (.tmp rfl) rfl rfl)) ?_
        refine WD_cons (.plain rfl (ox_indexA hC (j := 1) (.tmp rfl) .cint idx_40 rfl (by first | omega | (simp; omega)) (by first | exact Nat.mul_one _ | rfl) (by first | exact .p (Nat.zero_add _) | exact .p rfl | exact .rp (by first | omega | (simp; omega))) rfl rfl)) ?_
        refine WD_cons (.plain rfl (oc_load hC (.tmp rfl) (by first | exact .p rfl | exact .rp) shp_39 (by first | exact unit_one rfl | exact unit_I (by first | omega | (simp; omega)) | exact unit_c rfl (by decide)) rfl rfl)) ?_
        refine WD_cons (.plain rfl (oc_bin hC rfl (.tmp rfl) (.tmp rfl) rfl rfl rfl)) ?_
        refine WD_cons (.plain rfl (oc_move hC (.tmp rfl) rfl rfl)) ?_
        refine WD_cons (.plain rfl (ox_indexA hC (j := 2) (.tmp rfl) .cint idx_40 rfl (by first | omega | (simp; omega)) (by first | exact Nat.mul_one _ | rfl) (by first | exact .p (Nat.zero_add _) | exact .p rfl | exact .rp (by first | omega | (simp; omega))) rfl rfl)) ?_
        refine WD_cons (.plain rfl (oc_load hC (.tmp rfl) (by first | exact .p rfl | exact .rp) shp_39 (by first | exact unit_one rfl | exact unit_I (by first | omega | (simp; omega)) | exact unit_c rfl (by decide)) rfl rfl)) ?_
        refine WD_cons (.plain rfl (oc_bin hC rfl (.tmp rfl) (.tmp rfl) rfl rfl rfl)) ?_
        refine WD_cons (.plain rfl (oc_bin hC rfl (.tmp rfl) (.tmp rfl) rfl rfl rfl)) ?_
        refine WD_cons (.plain rfl (ox_indexA hC (j := 1) (.tmp rfl) .cint idx_40 rfl (by first | omega | (simp; omega)) (by first | exact Nat.mul_one _ | rfl) (by first | exact .p (Nat.zero_add _) | exact .p rfl | exact .rp (by first | omega | (simp; omega))) rfl rfl)) ?_
        refine WD_cons (.plain rfl (oc_load hC (.tmp rfl) (by first | exact .p rfl | exact .rp) shp_39 (by first | exact unit_one rfl | exact unit_I (by first | omega | (simp; omega)) | exact unit_c rfl (by decide)) rfl rfl)) ?_
        refine WD_cons (.plain rfl (ox_indexA hC (j := 2) (.tmp rfl) .cint idx_40 rfl (by first | omega | (simp; omega)) (by first | exact Nat.mul_one _ | rfl) (by first | exact .p (Nat.zero_add _) | exact .p rfl | exact .rp (by first | omega | (simp; omega))) rfl rfl)) ?_
        refine WD_cons (.plain rfl (oc_load hC (.tmp rfl) (by first | exact .p rfl | exact .rp) shp_39 (by first | exact unit_one rfl | exact unit_I (by first | omega | (simp; omega)) | exact unit_c rfl (by decide)) rfl rfl)) ?_
        refine WD_cons (.plain rfl (oc_bin hC rfl (.tmp rfl) (.tmp rfl) rfl rfl rfl)) ?_
        refine WD_cons (.plain rfl (oc_bin hC rfl (.tmp rfl) (.tmp rfl) rfl rfl rfl)) ?_
        refine WD_cons (.plain rfl (oc_bin hC rfl (.tmp rfl) (.tmp rfl) (r := uW (rounds tbl (wordsOf b) i s)) (by show IntKind.u32.wrap _ = _; rw [u32_wrap]; unfold uW bsig0 majW; rfl) rfl rfl)) ?_
        refine WD_cons (.plain rfl (oc_assign hC (.tmp rfl) rfl rfl)) ?_
        refine WD_nil (by kernel_rfl) ?_
        refine W_region ?_
        refine WL_cons hC.fn (.plain rfl (oc_move hC (.tmp rfl) rfl rfl)) ?_
        refine WL_cons hC.fn (.plain rfl (oc_move hC (.tmp rfl) rfl rfl)) ?_
        refine WL_cons hC.fn (.plain rfl (oc_bin hC rfl (.tmp rfl) (.tmp rfl) (u32_wrap _) rfl rfl)) ?_
        refine WL_cons hC.fn (.plain rfl (oc_move hC (.tmp rfl) rfl rfl)) ?_
        refine WL_cons hC.fn (.plain rfl (ox_indexA hC (j := 1) (.tmp rfl) .cint idx_40 rfl (by first | omega | (simp; omega)) (by first | exact Nat.mul_one _ | rfl) (by first | exact .p (Nat.zero_add _) | exact .p rfl | exact .rp (by first | omega | (simp; omega))) rfl rfl)) ?_
        refine WL_cons hC.fn (.plain rfl (oc_load hC (.tmp rfl) (by first | exact .p rfl | exact .rp) shp_39 (by first | exact unit_one rfl | exact unit_I (by first | omega | (simp; omega)) | exact unit_c rfl (by decide)) rfl rfl)) ?_
        refine WL_cons hC.fn (.plain rfl (ox_indexA hC (j := 2) (.tmp rfl) .cint idx_40 rfl (by first | omega | (simp; omega)) (by first | exact Nat.mul_one _ | rfl) (by first | exact .p (Nat.zero_add _) | exact .p rfl | exact .rp (by first | omega | (simp; omega))) rfl rfl)) ?_
        refine WL_cons hC.fn (.plain rfl (oc_load hC (.tmp rfl) (by first | exact .p rfl | exact .rp) shp_39 (by first | exact unit_one rfl | exact unit_I (by first | omega | (simp; omega)) | exact unit_c rfl (by decide)) rfl rfl)) ?_
        refine WL_cons hC.fn (.plain rfl (ox_indexA hC (j := 3) (.tmp rfl) .cint idx_40 rfl (by first | omega | (simp; omega)) (by first | exact Nat.mul_one _ | rfl) (by first | exact .p (Nat.zero_add _) | exact .p rfl | exact .rp (by first | omega | (simp; omega))) rfl rfl)) ?_
        refine WL_cons hC.fn (.plain rfl (oc_load hC (.tmp rfl) (by first | exact .p rfl | exact .rp) shp_39 (by first | exact unit_one rfl | exact unit_I (by first | omega | (simp; omega)) | exact unit_c rfl (by decide)) rfl rfl)) ?_
        refine WL_cons hC.fn (.plain rfl (oc_move hC (.tmp rfl) rfl rfl)) ?_
        refine WL_cons hC.fn (.plain rfl (oc_bin hC rfl (.tmp rfl) (.tmp rfl) (u32_wrap _) rfl rfl)) ?_
        refine WL_cons hC.fn (.plain rfl (oc_move hC (.tmp rfl) rfl rfl)) ?_
        refine WL_cons hC.fn (.plain rfl (ox_indexA hC (j := 5) (.tmp rfl) .cint idx_40 rfl (by first | omega | (simp; omega)) (by first | exact Nat.mul_one _ | rfl) (by first | exact .p (Nat.zero_add _) | exact .p rfl | exact .rp (by first | omega | (simp; omega))) rfl rfl)) ?_
        refine WL_cons hC.fn (.plain rfl (oc_load hC (.tmp rfl) (by first | exact .p rfl | exact .rp) shp_39 (by first | exact unit_one rfl | exact unit_I (by first | omega | (simp; omega)) | exact unit_c rfl (by decide)) rfl rfl)) ?_
        refine WL_cons hC.fn (.plain rfl (ox_indexA hC (j := 6) (.tmp rfl) .cint idx_40 rfl (by first | omega | (simp; omega)) (by first | exact Nat.mul_one _ | rfl) (by first | exact .p (Nat.zero_add _) | exact .p rfl | exact .rp (by first | omega | (simp; omega))) rfl rfl)) ?_
        refine WL_cons hC.fn (.plain rfl (oc_load hC (.tmp rfl) (by first | exact .p rfl | exact .rp) shp_39 (by first | exact unit_one rfl | exact unit_I (by first | omega | (simp; omega)) | exact unit_c rfl (by decide)) rfl rfl)) ?_
        refine WL_cons hC.fn (.plain rfl (ox_arr hC (.cons (.tmp rfl) (.cons (.tmp rfl) (.cons (.tmp rfl) (.cons (.tmp rfl) (.cons (.tmp rfl) (.cons (.tmp rfl) (.cons (.tmp rfl) (.cons (.tmp rfl) .nil)))))))) Tryd.underlying40 cells_39 zero_40 (by first | rfl | simp) bld_40 rfl rfl (by first | rfl | simp) rfl rfl)) ?_
        refine WL_cons hC.fn (.plain rfl (ox_store hC (.tmp rfl) (.tmp rfl) rfl shp_40 (by first | rfl | exact flat_agI) (by first | exact cells1 rfl | (rw [cells_ag, length_I]; omega) | rfl | (simp <;> fail) | (simp; omega)) (by first | exact Nat.le_refl _ | decide | (simp <;> fail) | (simp; omega)) (put_all (by rw [length_I]; exact hl)) (by first | exact .here | exact .there (.here) rfl | exact .there (.there (.here) rfl) rfl | exact .there (.there (.there (.here) rfl) rfl) rfl | exact .there (.there (.there (.there (.here) rfl) rfl) rfl) rfl | exact .there (.there (.there (.there (.there (.here) rfl) rfl) rfl) rfl) rfl | exact .there (.there (.there (.there (.there (.there (.here) rfl) rfl) rfl) rfl) rfl) rfl | exact .there (.there (.there (.there (.there (.there (.there (.here) rfl) rfl) rfl) rfl) rfl) rfl) rfl | exact .there (.there (.there (.there (.there (.there (.there (.there (.here) rfl) rfl) rfl) rfl) rfl) rfl) rfl) rfl | exact .there (.there (.there (.there (.there (.there (.there (.there (.there (.here) rfl) rfl) rfl) rfl) rfl) rfl) rfl) rfl) rfl) rfl)) ?_
        refine WL_nil ?_
        refine W_region ?_
        refine WL_cons hC.fn (.plain rfl (oc_bin hC rfl (.tmp rfl) .cint (by first | exact i64_add (by omega) | rfl) rfl rfl)) ?_
        refine WL_cons hC.fn (.plain rfl (oc_move hC (.tmp rfl) rfl rfl)) ?_
        refine WL_nil ?_
        exact ⟨(i + 1), (by omega), (weak (fun k => k) (.cons rfl (by first | rfl | simp) (by show _ < _; decide) (.cons rfl (by first | rfl | simp) (by show _ < _; decide) (.cons rfl (by first | rfl | simp) (by show _ < _; decide) (.cons rfl (by first | rfl | simp) (by show _ < _; decide) (.cons rfl (by first | rfl | simp) (by show _ < _; decide) (.cons rfl (by first | exact ren_agI | exact ren_vsI | exact ren_free _ _ (by first | exact inSL_I _ | simp)) (by first | exact inSL_I _ | simp) (.cons rfl (by first | rfl | exact congrArg (AV.i _) (by omega) | exact congrArg (AV.i _) (by simp; omega)) trivial (.cons rfl (by first | exact ren_agI | exact ren_vsI | exact ren_free _ _ (by first | exact inSL_I _ | simp)) (by first | exact inSL_I _ | simp) .nil)))))))) (.cons rfl (by first | exact ren_blkI | exact ren_rowI | rfl | exact Blk.ren_free (by simp) _) rfl (by first | exact inSL_I _ | simp) (.cons rfl (by first | exact ren_blkI | exact ren_rowI | rfl | exact Blk.ren_free (by simp) _) rfl (by first | exact inSL_I _ | simp) (.cons rfl (by first | exact ren_blkI | exact ren_rowI | rfl | exact Blk.ren_free (by simp) _) rfl (by first | exact inSL_I _ | simp) (.cons rfl (by first | exact ren_blkI | exact ren_rowI | rfl | exact Blk.ren_free (by simp) _) rfl (by first | exact inSL_I _ | simp) (.cons rfl (ren_blkI.trans rounds_blk) rfl (by first | exact inSL_I _ | simp) .nil))))) rfl rfl rfl), (by omega)⟩
      ·
        replace hc := lss_f hc
        refine W_exit ?_
        refine W_seq ?_
        refine W_seq ?_
        refine W_region ?_
        refine WL_cons hC.fn (.plain rfl (oc_move hC .cint rfl rfl)) ?_
        refine WL_nil ?_
        refine W_blk ?_
        obtain rfl : i = 64 := by omega
        have hl := length_rounds tbl (wordsOf b) s hs8 64
        refine W_loopW (fun (ζ : Nat) => ⟨5, [(2, .p 0 0), (3, .p 1 0), (4, .p 2 0), (5, .p 3 0), (10, .p 4 0), (150, .i .i64 ζ), (1000000, .rp (I .u32 tbl))], [(0, .blk 40 (I .u32 s)), (1, .blk 43 (I .u8 b)), (2, .blk 40 (I .u32 (List.replicate 8 0))), (3, .blk 48 (I .u32 (wordsOf b))), (4, .blk 40 (I .u32 (addP s (rounds tbl (wordsOf b) 64 s) ζ)))]⟩) (fun ζ => ζ ≤ 8) (fun ζ => 8 - ζ) (0) (by simp) (weak (fun k => k) (.cons rfl (by first | rfl | simp) (by show _ < _; decide) (.cons rfl (by first | rfl | simp) (by show _ < _; decide) (.cons rfl (by first | rfl | simp) (by show _ < _; decide) (.cons rfl (by first | rfl | simp) (by show _ < _; decide) (.cons rfl (by first | rfl | simp) (by show _ < _; decide) (.cons rfl rfl trivial (.cons rfl (by first | exact ren_agI | exact ren_vsI | exact ren_free _ _ (by first | exact inSL_I _ | simp)) (by first | exact inSL_I _ | simp) .nil))))))) (.cons rfl (by first | exact ren_blkI | exact ren_rowI | rfl | exact Blk.ren_free (by simp) _) rfl (by first | exact inSL_I _ | simp) (.cons rfl (by first | exact ren_blkI | exact ren_rowI | rfl | exact Blk.ren_free (by simp) _) rfl (by first | exact inSL_I _ | simp) (.cons rfl (by first | exact ren_blkI | exact ren_rowI | rfl | exact Blk.ren_free (by simp) _) rfl (by first | exact inSL_I _ | simp) (.cons rfl (by first | exact ren_blkI | exact ren_rowI | rfl | exact Blk.ren_free (by simp) _) rfl (by first | exact inSL_I _ | simp) (.cons rfl (renBlk (addP_zero _ _)) rfl (by first | exact inSL_I _ | simp) .nil))))) rfl rfl rfl) ?_
        intro i hR
        replace hR : i ≤ 8 := hR
        first | show W _ _ _ ⟨5, [(2, .p 0 0), (3, .p 1 0), (4, .p 2 0), (5, .p 3 0), (10, .p 4 0), (150, .i .i64 i), (1000000, .rp (I .u32 tbl))], [(0, .blk 40 (I .u32 s)), (1, .blk 43 (I .u8 b)), (2, .blk 40 (I .u32 (List.replicate 8 0))), (3, .blk 48 (I .u32 (wordsOf b))), (4, .blk 40 (I .u32 (addP s (rounds tbl (wordsOf b) 64 s) i)))]⟩ | skip
        have hla := length_addP (s := s) hl (i := i) (by omega)
        refine W_seq ?_
        refine W_region ?_
        refine WL_cons hC.fn (.plain rfl (ox_cmp hC rfl (.tmp rfl) .cint rfl rfl rfl)) ?_
        refine WL_nil ?_
        refine W_seq ?_
        refine W_cond rfl (by decide) (fun hc => ?_) (fun hc => ?_)
        ·
          replace hc := lss_t hc
          refine W_skip ?_
          refine W_seq ?_
          refine W_blk ?_
          refine W_seq ?_
          refine W_region ?_
          refine WL_cons hC.fn (.plain rfl (oc_move hC (.tmp rfl) rfl rfl)) ?_
          refine WL_cons hC.fn (.plain rfl (oc_assign hC (.tmp rfl) rfl rfl)) ?_
          refine WL_nil ?_
          refine W_drawD hC ?_
          refine WD_cons (.plain rfl (oc_move hC (.tmp rfl) rfl rfl)) ?_
          refine WD_cons (.plain rfl (ox_indexA hC  (.tmp rfl) (.tmp rfl) idx_40 (by first | rfl | exact toNat_up (by omega)) (by first | omega | (simp; omega)) (by first | exact Nat.mul_one _ | rfl) (by first | exact .p (Nat.zero_add _) | exact .p rfl | exact .rp (by first | omega | (simp; omega))) rfl rfl)) ?_
          refine WD_cons (.plain rfl (oc_load hC (.tmp rfl) (by first | exact .p rfl | exact .rp) shp_39 (by first | exact unit_one rfl | exact unit_I (by first | omega | (simp; omega)) | exact unit_c rfl (by decide)) rfl rfl)) ?_
          refine WD_cons (.plain rfl (oc_move hC (.tmp rfl) rfl rfl)) ?_
          refine WD_cons (.plain rfl (ox_indexA hC  (.tmp rfl) (.tmp rfl) idx_40 (by first | rfl | exact toNat_up (by omega)) (by first | omega | (simp; omega)) (by first | exact Nat.mul_one _ | rfl) (by first | exact .p (Nat.zero_add _) | exact .p rfl | exact .rp (by first | omega | (simp; omega))) rfl rfl)) ?_
          refine WD_cons (.plain rfl (oc_load hC (.tmp rfl) (by first | exact .p rfl | exact .rp) shp_39 (by first | exact unit_one rfl | exact unit_I (by first | omega | (simp; omega)) | exact unit_c rfl (by decide)) rfl rfl)) ?_
          refine WD_cons (.plain rfl (oc_bin hC rfl (.tmp rfl) (.tmp rfl) (u32_wrap _) rfl rfl)) ?_
          refine WD_cons (.plain rfl (ox_indexA hC  (.tmp rfl) (.tmp rfl) idx_40 (by first | rfl | exact toNat_up (by omega)) (by first | omega | (simp; omega)) (by first | exact Nat.mul_one _ | rfl) (by first | exact .p (Nat.zero_add _) | exact .p rfl | exact .rp (by first | omega | (simp; omega))) rfl rfl)) ?_
          refine WD_cons (.plain rfl (ox_store hC (.tmp rfl) (.tmp rfl) rfl shp_39 (by first | rfl | exact flat_agI) (by first | exact cells1 rfl | (rw [cells_ag, length_I]; omega) | rfl | (simp <;> fail) | (simp; omega)) (by first | exact Nat.le_refl _ | decide | (simp <;> fail) | (simp; omega)) (by first | exact put_one rfl | exact put_blkI (by first | omega | (simp; omega)) | exact put_rowI (by first | omega | (simp; omega))) (by first | exact .here | exact .there (.here) rfl | exact .there (.there (.here) rfl) rfl | exact .there (.there (.there (.here) rfl) rfl) rfl | exact .there (.there (.there (.there (.here) rfl) rfl) rfl) rfl | exact .there (.there (.there (.there (.there (.here) rfl) rfl) rfl) rfl) rfl | exact .there (.there (.there (.there (.there (.there (.here) rfl) rfl) rfl) rfl) rfl) rfl | exact .there (.there (.there (.there (.there (.there (.there (.here) rfl) rfl) rfl) rfl) rfl) rfl) rfl | exact .there (.there (.there (.there (.there (.there (.there (.there (.here) rfl) rfl) rfl) rfl) rfl) rfl) rfl) rfl | exact .there (.there (.there (.there (.there (.there (.there (.there (.there (.here) rfl) rfl) rfl) rfl) rfl) rfl) rfl) rfl) rfl) rfl)) ?_
          refine WD_nil (by kernel_rfl) ?_
          refine W_region ?_
          refine WL_cons hC.fn (.plain rfl (oc_bin hC rfl (.tmp rfl) .cint (by first | exact i64_add (by omega) | rfl) rfl rfl)) ?_
          refine WL_cons hC.fn (.plain rfl (oc_move hC (.tmp rfl) rfl rfl)) ?_
          refine WL_nil ?_
          exact ⟨(i + 1), (by omega), (weak (fun k => k) (.cons rfl (by first | rfl | simp) (by show _ < _; decide) (.cons rfl (by first | rfl | simp) (by show _ < _; decide) (.cons rfl (by first | rfl | simp) (by show _ < _; decide) (.cons rfl (by first | rfl | simp) (by show _ < _; decide) (.cons rfl (by first | rfl | simp) (by show _ < _; decide) (.cons rfl (by first | rfl | exact congrArg (AV.i _) (by omega) | exact congrArg (AV.i _) (by simp; omega)) trivial (.cons rfl (by first | exact ren_agI | exact ren_vsI | exact ren_free _ _ (by first | exact inSL_I _ | simp)) (by first | exact inSL_I _ | simp) .nil))))))) (.cons rfl (by first | exact ren_blkI | exact ren_rowI | rfl | exact Blk.ren_free (by simp) _) rfl (by first | exact inSL_I _ | simp) (.cons rfl (by first | exact ren_blkI | exact ren_rowI | rfl | exact Blk.ren_free (by simp) _) rfl (by first | exact inSL_I _ | simp) (.cons rfl (by first | exact ren_blkI | exact ren_rowI | rfl | exact Blk.ren_free (by simp) _) rfl (by first | exact inSL_I _ | simp) (.cons rfl (by first | exact ren_blkI | exact ren_rowI | rfl | exact Blk.ren_free (by simp) _) rfl (by first | exact inSL_I _ | simp) (.cons rfl (renBlk (addP_succ hl (by omega)).symm) rfl (by first | exact inSL_I _ | simp) .nil))))) rfl rfl rfl), (by omega)⟩
        ·
          replace hc := lss_f hc
          refine W_exit ?_
          refine W_seq ?_
          refine W_region ?_
          obtain rfl : i = 8 := by omega
          have hla := length_addP (s := s) hl (i := 8) (by omega)
          refine WL_cons hC.fn (.plain rfl (oc_load hC (.tmp rfl) (by first | exact .p rfl | exact .rp) shp_40 (by first | exact unit_blkI (by first | omega | (simp <;> fail) | (simp; omega)) | exact unit_rowI (by first | omega | (simp; omega)) | exact unit_all (by first | omega | (simp <;> fail) | (simp; omega)) | exact unit_takeI0 (by first | omega | (simp; omega)) | exact unit_takeI (by first | omega | (simp; omega)) | exact unit_agg rfl) rfl rfl)) ?_
          refine WL_cons hC.fn (.plain rfl (ox_store hC (.tmp rfl) (.tmp rfl) rfl shp_40 (by first | rfl | exact flat_agI) (by first | exact cells1 rfl | (rw [cells_ag, length_I]; omega) | rfl | (simp <;> fail) | (simp; omega)) (by first | exact Nat.le_refl _ | decide | (simp <;> fail) | (simp; omega)) (by first | exact put_allI (by first | omega | (simp; omega)) | exact put_all (by rw [length_I]; first | omega | (simp; omega)) | exact put_all rfl) (by first | exact .here | exact .there (.here) rfl | exact .there (.there (.here) rfl) rfl | exact .there (.there (.there (.here) rfl) rfl) rfl | exact .there (.there (.there (.there (.here) rfl) rfl) rfl) rfl | exact .there (.there (.there (.there (.there (.here) rfl) rfl) rfl) rfl) rfl | exact .there (.there (.there (.there (.there (.there (.here) rfl) rfl) rfl) rfl) rfl) rfl | exact .there (.there (.there (.there (.there (.there (.there (.here) rfl) rfl) rfl) rfl) rfl) rfl) rfl | exact .there (.there (.there (.there (.there (.there (.there (.there (.here) rfl) rfl) rfl) rfl) rfl) rfl) rfl) rfl | exact .there (.there (.there (.there (.there (.there (.there (.there (.there (.here) rfl) rfl) rfl) rfl) rfl) rfl) rfl) rfl) rfl) rfl)) ?_
          refine WL_nil ?_
          refine W_ret ?_
          exact fin0 (.cons (.cell rfl (.p rfl) shp_40 (unit_all hla)) .nil) (congrArg (fun l => AV.ag (I .u32 l)) ((addP_end hl).trans (by unfold blockM; rfl))) (by first | exact inSL_I _ | simp)
set_option maxRecDepth 20000 in
set_option maxHeartbeats 4000000 in
theorem pad_c (n : Nat) (hn : n ≤ 1099511627776) : FnC Tryd.prog 20 [] [.i .i64 n] [] [(0, .row 5 1 (9 + padZ n) (I .u8 (padM n)))] (.row 0) := by
  have hz := padZ_lt n
  refine FnC.intro (N0 := 0) (T := 33) (E := [(0, .i .i64 n)]) Tryd.func20 rfl (by decide) mix rfl rfl rfl (by simp) rfl ⟨(by first | exact inSL_I _ | trivial | simp), trivial⟩ (by simp) (by
        intro S ha hr hw
        have s0 : S 0 := hw 0 (by simp) (by simp)
        refine ⟨by simp [s0], fun k b hm => ?_⟩
        simp only [List.mem_cons, Prod.mk.injEq, List.not_mem_nil, or_false] at hm
        rcases hm with ⟨rfl, rfl⟩
        · exact ⟨s0, by first | exact inSL_I _ | simp [s0]⟩) (fun F n0 X w ρ hC => ?_)
  refine W_seq ?_
  refine W_region ?_
  refine WL_cons hC.fn (.plain rfl (oc_assign hC .cnils rfl rfl)) ?_
  refine WL_nil ?_
  refine W_seq ?_
  refine W_seq ?_
  refine W_region ?_
  refine WL_cons hC.fn (.plain rfl (oc_move hC (.tmp rfl) rfl rfl)) ?_
  refine WL_cons hC.fn (.plain rfl (ox_cmp hC rfl (.tmp rfl) .cint rfl rfl rfl)) ?_
  refine WL_nil ?_
  refine W_cond rfl (by decide) (fun hc => ?_) (fun hc => ?_)
  ·
    replace hc := lss_t hc
    exfalso
    omega
  ·
    replace hc := lss_f hc
    refine W_skip ?_
    refine W_seq ?_
    refine W_region ?_
    refine WL_cons hC.fn (.plain rfl (ox_litR hC (.cons .cint .nil) Tryd.underlying22 cells_5 zero_5 rfl (by decide) rfl rfl (by first | rfl | simp) rfl rfl)) ?_
    refine WL_cons hC.fn (.plain rfl (oc_assign hC (.tmp rfl) rfl rfl)) ?_
    refine WL_nil ?_
    refine W_seq ?_
    refine W_blk ?_
    refine W_loopW (fun (ζ : Nat) => ⟨1, [(0, .i .i64 n), (3, .row 0)], [(0, .row 5 1 (1 + ζ) (I .u8 (128 :: List.replicate ζ 0)))]⟩) (fun ζ => ζ ≤ padZ n) (fun ζ => padZ n - ζ) (0) (Nat.zero_le _) (weak (fun k => k) (.cons rfl (by first | rfl | exact congrArg (AV.i _) (by omega) | exact congrArg (AV.i _) (by simp; omega)) trivial (.cons rfl (by first | rfl | simp) (by show _ < _; decide) .nil)) (.cons rfl rfl rfl (by first | exact inSL_I _ | simp) .nil) rfl rfl rfl) ?_
    intro i hR
    replace hR : i ≤ padZ n := hR
    first | show W _ _ _ ⟨1, [(0, .i .i64 n), (3, .row 0)], [(0, .row 5 1 (1 + i) (I .u8 (128 :: List.replicate i 0)))]⟩ | skip
    refine W_seq ?_
    refine W_seq ?_
    refine W_region ?_
    refine WL_cons hC.fn (.plain rfl (oc_move hC (.tmp rfl) rfl rfl)) ?_
    refine WL_cons hC.fn (.plain rfl (oc_move hC (.tmp rfl) rfl rfl)) ?_
    refine WL_cons hC.fn (.plain rfl (ox_len hC (.tmp rfl) (by first | exact .row rfl | exact .vs | exact .sl rfl | exact .nils) Tryd.underlying22 rfl rfl rfl)) ?_
    refine WL_cons hC.fn (.plain rfl (oc_bin hC rfl (.tmp rfl) (.tmp rfl) (by first | exact i64_add (by omega) | rfl) rfl rfl)) ?_
    refine WL_cons hC.fn (.plain rfl (oc_bin hC rfl (.tmp rfl) .cint (by first | exact i64_add (by omega) | rfl) rfl rfl)) ?_
    refine WL_cons hC.fn (.plain rfl (oc_div hC (.inr rfl) (.tmp rfl) .cint (by first | decide | omega) (by first | exact rem_nn (by omega) | rfl) rfl rfl)) ?_
    refine WL_cons hC.fn (.plain rfl (ox_cmp hC rfl (.tmp rfl) .cint rfl rfl rfl)) ?_
    replace hR : i ≤ padZ n := hR
    refine WL_nil ?_
    refine W_cond rfl (by decide) (fun hc => ?_) (fun hc => ?_)
    ·
      replace hc := neq_t hc
      have hne : i ≠ padZ n := fun e => hc (by have := padZ_all n; rw [← e] at this; omega)
      refine W_skip ?_
      refine W_blk ?_
      refine W_region ?_
      refine WL_cons hC.fn (.plain rfl (oc_move hC (.tmp rfl) rfl rfl)) ?_
      refine WL_cons hC.fn (.plain rfl (ox_lit hC (.cons .cint .nil) Tryd.underlying22 cells_5 zero_5 rfl (by decide) rfl rfl (by first | rfl | simp) rfl rfl)) ?_
      refine WL_cons hC.fn (.plain rfl (ox_append hC (.tmp rfl) (.tmp rfl) (by first | exact .row rfl rfl (by first | exact .here rfl | exact .there (.here rfl) rfl | exact .there (.there (.here rfl) rfl) rfl | exact .there (.there (.there (.here rfl) rfl) rfl) rfl | exact .there (.there (.there (.there (.here rfl) rfl) rfl) rfl) rfl | exact .there (.there (.there (.there (.there (.here rfl) rfl) rfl) rfl) rfl) rfl | exact .there (.there (.there (.there (.there (.there (.here rfl) rfl) rfl) rfl) rfl) rfl) rfl | exact .there (.there (.there (.there (.there (.there (.there (.here rfl) rfl) rfl) rfl) rfl) rfl) rfl) rfl | exact .there (.there (.there (.there (.there (.there (.there (.there (.here rfl) rfl) rfl) rfl) rfl) rfl) rfl) rfl) rfl | exact .there (.there (.there (.there (.there (.there (.there (.there (.there (.here rfl) rfl) rfl) rfl) rfl) rfl) rfl) rfl) rfl) rfl) | exact .nils) (by first | exact .row rfl | exact .vs | exact .sl rfl | exact .nils) (by first | exact hro_nil | exact hro_one rfl) Tryd.underlying22 cells_5 bytes_5 zero_5 rfl (by decide) (by first | (simp <;> fail) | (simp; omega)) (by first | rfl | exact one_takeI) (by first | rfl | (simp <;> fail) | (simp; omega)) app_1 (by simp only [maxLen]; omega) (by omega) rfl rfl)) ?_
      refine WL_cons hC.fn (.plain rfl (oc_assign hC (.tmp rfl) rfl rfl)) ?_
      refine WL_nil ?_
      exact ⟨(i + 1), (by omega), (weak (fun k => bif Nat.beq k 0 then 1 else k) (.cons rfl (by first | rfl | exact congrArg (AV.i _) (by omega) | exact congrArg (AV.i _) (by simp; omega)) trivial (.cons rfl (by first | rfl | simp) (by show _ < _; decide) .nil)) (.cons rfl (renRow (Nat.add_assoc 1 i 1).symm (rep_succ i).symm) rfl (by first | exact inSL_I _ | simp) .nil) rfl rfl rfl), (by omega)⟩
    ·
      replace hc := neq_f hc
      obtain rfl : i = padZ n := padZ_end hR (by omega)
      refine W_exit ?_
      refine W_seq ?_
      refine W_seq ?_
      refine W_region ?_
      refine WL_cons hC.fn (.plain rfl (oc_assign hC .cint rfl rfl)) ?_
      refine WL_nil ?_
      refine W_blk ?_
      refine W_loopW (fun (ζ : Nat) => ⟨1, [(0, .i .i64 n), (3, .row 0), (4, .i .i64 (7 - (ζ : Int)))], [(0, .row 5 1 (1 + padZ n + ζ) (I .u8 (padP n ζ)))]⟩) (fun ζ => ζ ≤ 8) (fun ζ => 8 - ζ) (0) (by simp) (weak (fun k => k) (.cons rfl (by first | rfl | exact congrArg (AV.i _) (by omega) | exact congrArg (AV.i _) (by simp; omega)) trivial (.cons rfl (by first | rfl | simp) (by show _ < _; decide) (.cons rfl rfl trivial .nil))) (.cons rfl (renRow rfl (padP_zero n).symm) rfl (by first | exact inSL_I _ | simp) .nil) rfl rfl rfl) ?_
      intro j hR
      replace hR : j ≤ 8 := hR
      first | show W _ _ _ ⟨1, [(0, .i .i64 n), (3, .row 0), (4, .i .i64 (7 - (j : Int)))], [(0, .row 5 1 (1 + padZ n + j) (I .u8 (padP n j)))]⟩ | skip
      refine W_seq ?_
      refine W_seq ?_
      refine W_region ?_
      refine WL_cons hC.fn (.plain rfl (oc_move hC (.tmp rfl) rfl rfl)) ?_
      refine WL_cons hC.fn (.plain rfl (ox_cmp hC rfl (.tmp rfl) .cint rfl rfl rfl)) ?_
      refine WL_nil ?_
      refine W_cond rfl (by decide) (fun hc => ?_) (fun hc => ?_)
      ·
        replace hc := geq_t hc
        refine W_skip ?_
        refine W_seq ?_
        refine W_blk ?_
        refine W_region ?_
        refine WL_cons hC.fn (.plain rfl (oc_move hC (.tmp rfl) rfl rfl)) ?_
        refine WL_cons hC.fn (.plain rfl (oc_move hC (.tmp rfl) rfl rfl)) ?_
        refine WL_cons hC.fn (.plain rfl (oc_conv hC (.tmp rfl) rfl Tryd.underlying47 (by first | exact u64_conv (by omega) | rfl) rfl rfl)) ?_
        refine WL_cons hC.fn (.plain rfl (oc_bin hC rfl (.tmp rfl) .cint (r := binI .mul .u64 n 8) rfl rfl rfl)) ?_
        refine WL_cons hC.fn (.plain rfl (oc_move hC (.tmp rfl) rfl rfl)) ?_
        refine WL_cons hC.fn (.plain rfl (oc_bin hC rfl .cint (.tmp rfl) (by first | exact i64_mul (by omega) | rfl) rfl rfl)) ?_
        refine WL_cons hC.fn (.plain rfl (oc_shift hC (.inr rfl) (.tmp rfl) (.tmp rfl) (by first | decide | omega) rfl rfl rfl)) ?_
        refine WL_cons hC.fn (.plain rfl (oc_conv hC (.tmp rfl) rfl Tryd.underlying5 (r := beB (8 * n) j) (pad_byte hn (by omega)) rfl rfl)) ?_
        refine WL_cons hC.fn (.plain rfl (ox_lit hC (.cons (.tmp rfl) .nil) Tryd.underlying22 cells_5 zero_5 rfl (by decide) rfl rfl (by first | rfl | simp) rfl rfl)) ?_
        refine WL_cons hC.fn (.plain rfl (ox_append hC (.tmp rfl) (.tmp rfl) (by first | exact .row rfl rfl (by first | exact .here rfl | exact .there (.here rfl) rfl | exact .there (.there (.here rfl) rfl) rfl | exact .there (.there (.there (.here rfl) rfl) rfl) rfl | exact .there (.there (.there (.there (.here rfl) rfl) rfl) rfl) rfl | exact .there (.there (.there (.there (.there (.here rfl) rfl) rfl) rfl) rfl) rfl | exact .there (.there (.there (.there (.there (.there (.here rfl) rfl) rfl) rfl) rfl) rfl) rfl | exact .there (.there (.there (.there (.there (.there (.there (.here rfl) rfl) rfl) rfl) rfl) rfl) rfl) rfl | exact .there (.there (.there (.there (.there (.there (.there (.there (.here rfl) rfl) rfl) rfl) rfl) rfl) rfl) rfl) rfl | exact .there (.there (.there (.there (.there (.there (.there (.there (.there (.here rfl) rfl) rfl) rfl) rfl) rfl) rfl) rfl) rfl) rfl) | exact .nils) (by first | exact .row rfl | exact .vs | exact .sl rfl | exact .nils) (by first | exact hro_nil | exact hro_one rfl) Tryd.underlying22 cells_5 bytes_5 zero_5 rfl (by decide) (by first | (simp <;> fail) | (simp; omega)) (by first | rfl | exact one_takeI) (by first | rfl | (simp <;> fail) | (simp; omega)) app_1 (by simp only [maxLen]; omega) (by omega) rfl rfl)) ?_
        refine WL_cons hC.fn (.plain rfl (oc_assign hC (.tmp rfl) rfl rfl)) ?_
        refine WL_nil ?_
        refine W_region ?_
        refine WL_cons hC.fn (.plain rfl (oc_move hC (.tmp rfl) rfl rfl)) ?_
        refine WL_cons hC.fn (.plain rfl (oc_bin hC rfl (.tmp rfl) .cint (by first | exact i64_sub (by omega) | rfl) rfl rfl)) ?_
        refine WL_cons hC.fn (.plain rfl (oc_assign hC (.tmp rfl) rfl rfl)) ?_
        refine WL_nil ?_
        exact ⟨(j + 1), (by omega), (weak (fun k => bif Nat.beq k 0 then 1 else k) (.cons rfl (by first | rfl | exact congrArg (AV.i _) (by omega) | exact congrArg (AV.i _) (by simp; omega)) trivial (.cons rfl (by first | rfl | simp) (by show _ < _; decide) (.cons rfl (by first | rfl | exact congrArg (AV.i _) (by omega) | exact congrArg (AV.i _) (by simp; omega)) trivial .nil))) (.cons rfl (renRow (Nat.add_assoc (1 + padZ n) j 1).symm (padP_succ n j).symm) rfl (by first | exact inSL_I _ | simp) .nil) rfl rfl rfl), (by omega)⟩
      ·
        replace hc := geq_f hc
        refine W_exit ?_
        refine W_seq ?_
        refine W_region ?_
        obtain rfl : j = 8 := by omega
        rw [show 1 + padZ n + 8 = 9 + padZ n by omega]
        refine WL_cons hC.fn (.plain rfl (oc_move hC (.tmp rfl) rfl rfl)) ?_
        refine WL_cons hC.fn (.plain rfl (oc_assign hC (.tmp rfl) rfl rfl)) ?_
        refine WL_nil ?_
        refine W_ret ?_
        exact fin1 (.cons (.tmp rfl) .nil) rfl (by unfold padM; rfl) (inSL_I _)
set_option maxRecDepth 20000 in
set_option maxHeartbeats 4000000 in
theorem of_c (ps : List (Nat × List Int)) (m : Nat) (hm : ps.length = m) (hm2 : m ≤ 4294967296) (hp : ∀ p ∈ ps, p.2.length = p.1 ∧ B8 p.2) (hl : (ps.map (·.2)).flatten.length ≤ 1099511627776) : FnC Tryd.prog 16 [(1000000, .rp (I .u32 tbl))] [.vs m (ps.map fun p => AV.vs p.1 (I .u8 p.2))] [] [] (.ag (I .u8 (sha tbl (ps.map (·.2)).flatten))) := by
  refine FnC.intro (N0 := 0) (T := 59) (E := [(0, .vs m (ps.map fun p => AV.vs p.1 (I .u8 p.2))), (1000000, .rp (I .u32 tbl))]) Tryd.func16 rfl (by decide) mix rfl rfl rfl (by simp) rfl (by simp only [AV.inSL, and_true]; exact inS_mono (fun _ h => h.elim) _ keyless_parts) (by simp) (by intro S _ _ h; simp) (fun F n0 X w ρ hC => ?_)
  refine W_seq ?_
  refine W_region ?_
  refine WL_cons hC.fn (.plain rfl (ox_alloc hC zero_24 rfl rfl rfl)) ?_
  refine WL_nil ?_
  refine W_seq ?_
  refine W_region ?_
  refine WL_cons hC.fn (.plain rfl (oc_assign hC .cnils rfl rfl)) ?_
  refine WL_nil ?_
  refine W_seq ?_
  refine W_seq ?_
  refine W_region ?_
  refine WL_cons hC.fn (.plain rfl (oc_move hC (.tmp rfl) rfl rfl)) ?_
  refine WL_cons hC.fn (.plain rfl (ox_len hC (.tmp rfl) (by first | exact .row rfl | exact .vs | exact .sl rfl | exact .nils) Tryd.underlying33 rfl rfl rfl)) ?_
  refine WL_cons hC.fn (.plain rfl (oc_move hC .cint rfl rfl)) ?_
  refine WL_nil ?_
  refine W_blk ?_
  refine W_weak (weak_nil (t := 3) (e := 5) (sz := 1) rfl) ?_
  refine W_loopW (fun (ζ : Nat) => ⟨2, [(2, .p 0 0), (3, .row 1), (11, .vs m (ps.map fun p => AV.vs p.1 (I .u8 p.2))), (12, .i .i64 m), (13, .i .i64 ζ), (1000000, .rp (I .u32 tbl))], [(0, .blk 24 (I .u8 (List.replicate 32 0))), (1, .row 5 1 ((ps.take ζ).map (·.2)).flatten.length (I .u8 ((ps.take ζ).map (·.2)).flatten))]⟩) (fun ζ => ζ ≤ ps.length) (fun ζ => ps.length - ζ) (0) (by simp) (weak (fun k => k) (.cons rfl (by first | rfl | simp) (by show _ < _; decide) (.cons rfl (by first | rfl | simp) (by show _ < _; decide) (.cons rfl (ren_free _ _ keyless_parts) (inS_mono (fun _ h => h.elim) _ keyless_parts) (.cons rfl (by first | rfl | exact congrArg (AV.i _) (by omega) | exact congrArg (AV.i _) (by simp; omega)) trivial (.cons rfl rfl trivial (.cons rfl (by first | exact ren_agI | exact ren_vsI | exact ren_free _ _ (by first | exact inSL_I _ | simp)) (by first | exact inSL_I _ | simp) .nil)))))) (.cons rfl (by first | exact ren_blkI | exact ren_rowI | rfl | exact Blk.ren_free (by simp) _) rfl (by first | exact inSL_I _ | simp) (.cons rfl (renRow rfl rfl) rfl (by first | exact inSL_I _ | simp) .nil)) rfl rfl rfl) ?_
  intro i hR
  replace hR : i ≤ ps.length := hR
  first | show W _ _ _ ⟨2, [(2, .p 0 0), (3, .row 1), (11, .vs m (ps.map fun p => AV.vs p.1 (I .u8 p.2))), (12, .i .i64 m), (13, .i .i64 i), (1000000, .rp (I .u32 tbl))], [(0, .blk 24 (I .u8 (List.replicate 32 0))), (1, .row 5 1 ((ps.take i).map (·.2)).flatten.length (I .u8 ((ps.take i).map (·.2)).flatten))]⟩ | skip
  refine W_seq ?_
  refine W_region ?_
  refine WL_cons hC.fn (.plain rfl (ox_cmp hC rfl (.tmp rfl) (.tmp rfl) rfl rfl rfl)) ?_
  refine WL_nil ?_
  refine W_seq ?_
  refine W_cond rfl (by decide) (fun hc => ?_) (fun hc => ?_)
  ·
    replace hc := lss_t hc
    have hi : i < ps.length := by omega
    obtain ⟨h1, h2⟩ := hp (ps[i]) (List.getElem_mem hi)
    have hle := parts_le ps i hi
    refine W_skip ?_
    refine W_seq ?_
    refine W_blk ?_
    refine W_seq ?_
    refine W_region ?_
    refine WL_cons hC.fn (.plain rfl (ox_indexS hC  (.tmp rfl) (.tmp rfl) idx_33 (by first | rfl | exact toNat_up (by omega)) (by first | exact Nat.mul_one _ | rfl) (by first | exact .row rfl | exact .sl (Nat.zero_add _) | exact .sl rfl | exact .vs (by first | omega | (simp; omega))) (by omega) rfl rfl)) ?_
    refine WL_cons hC.fn (.plain rfl (oc_load hC (.tmp rfl) (by first | exact .p rfl | exact .rp) shp_22 (by exact (unit_get (parts_get hi))) rfl rfl)) ?_
    refine WL_cons hC.fn (.plain rfl (oc_assign hC (.tmp rfl) rfl rfl)) ?_
    refine WL_nil ?_
    refine W_region ?_
    refine WL_cons hC.fn (.plain rfl (oc_move hC (.tmp rfl) rfl rfl)) ?_
    refine WL_cons hC.fn (.plain rfl (oc_move hC (.tmp rfl) rfl rfl)) ?_
    refine WL_cons hC.fn (.plain rfl (ox_append hC (.tmp rfl) (.tmp rfl) (by first | exact .row rfl rfl (by first | exact .here rfl | exact .there (.here rfl) rfl | exact .there (.there (.here rfl) rfl) rfl | exact .there (.there (.there (.here rfl) rfl) rfl) rfl | exact .there (.there (.there (.there (.here rfl) rfl) rfl) rfl) rfl | exact .there (.there (.there (.there (.there (.here rfl) rfl) rfl) rfl) rfl) rfl | exact .there (.there (.there (.there (.there (.there (.here rfl) rfl) rfl) rfl) rfl) rfl) rfl | exact .there (.there (.there (.there (.there (.there (.there (.here rfl) rfl) rfl) rfl) rfl) rfl) rfl) rfl | exact .there (.there (.there (.there (.there (.there (.there (.there (.here rfl) rfl) rfl) rfl) rfl) rfl) rfl) rfl) rfl | exact .there (.there (.there (.there (.there (.there (.there (.there (.there (.here rfl) rfl) rfl) rfl) rfl) rfl) rfl) rfl) rfl) rfl) | exact .nils) (by first | exact .row rfl | exact .vs | exact .sl rfl | exact .nils) (by first | exact hro_nil | exact hro_one rfl) Tryd.underlying22 cells_5 bytes_5 zero_5 rfl (by decide) (by first | (simp <;> fail) | (simp; omega)) (by first | rfl | exact one_takeI) (by first | rfl | (simp <;> fail) | (simp; omega)) (app_I h1) (by simp only [maxLen]; omega) (by omega) rfl rfl)) ?_
    refine WL_cons hC.fn (.plain rfl (oc_assign hC (.tmp rfl) rfl rfl)) ?_
    refine WL_nil ?_
    refine W_region ?_
    refine WL_cons hC.fn (.plain rfl (oc_bin hC rfl (.tmp rfl) .cint (by first | exact i64_add (by omega) | rfl) rfl rfl)) ?_
    refine WL_cons hC.fn (.plain rfl (oc_move hC (.tmp rfl) rfl rfl)) ?_
    refine WL_nil ?_
    exact ⟨(i + 1), (by omega), (weak (fun k => bif Nat.beq k 1 then 2 else k) (.cons rfl (by first | rfl | simp) (by show _ < _; decide) (.cons rfl (by first | rfl | simp) (by show _ < _; decide) (.cons rfl (ren_free _ _ keyless_parts) (inS_mono (fun _ h => h.elim) _ keyless_parts) (.cons rfl (by first | rfl | exact congrArg (AV.i _) (by omega) | exact congrArg (AV.i _) (by simp; omega)) trivial (.cons rfl (by first | rfl | exact congrArg (AV.i _) (by omega) | exact congrArg (AV.i _) (by simp; omega)) trivial (.cons rfl (by first | exact ren_agI | exact ren_vsI | exact ren_free _ _ (by first | exact inSL_I _ | simp)) (by first | exact inSL_I _ | simp) .nil)))))) (.cons rfl (by first | exact ren_blkI | exact ren_rowI | rfl | exact Blk.ren_free (by simp) _) rfl (by first | exact inSL_I _ | simp) (.cons rfl (renRow (by rw [parts_succ hi, List.length_append, h1]) (parts_succ hi)) rfl (by first | exact inSL_I _ | simp) .nil)) rfl rfl rfl), (by omega)⟩
  ·
    replace hc := lss_f hc
    obtain rfl : i = ps.length := by omega
    rw [List.take_length]
    have hM8 := B8_parts fun p h => (hp p h).2
    generalize hM : (ps.map (·.2)).flatten = M at *
    have hlp := length_padded M
    have hP := B8_padded hM8
    refine W_exit ?_
    refine W_seq ?_
    refine W_region ?_
    refine WL_cons hC.fn (.plain rfl (oc_move hC (.tmp rfl) rfl rfl)) ?_
    refine WL_cons hC.fn (.plain rfl (oc_move hC (.tmp rfl) rfl rfl)) ?_
    refine WL_cons hC.fn (.plain rfl (ox_len hC (.tmp rfl) (by first | exact .row rfl | exact .vs | exact .sl rfl | exact .nils) Tryd.underlying22 rfl rfl rfl)) ?_
    refine WL_cons hC.fn (.plain rfl (oc_callN hC (.cons (.tmp rfl) .nil) (.cons1 (.free (by first | exact inSL_I _ | simp)) (.same (by first | exact inSL_I _ | simp))) (pad_c _ hl) glob_nil (by first | exact inSL_I _ | simp) rfl (by first | exact .inl rfl | exact .inr ⟨by simp, novsL_I _⟩ | exact .inr ⟨by simp, by simp⟩) rfl rfl)) ?_
    have hpz := padZ_lt M.length
    have hlq := len_pad M.length
    refine WL_cons hC.fn (.plain rfl (ox_append (n' := 64 * nblk M.length) (cs' := I .u8 (paddedM M)) hC (.tmp rfl) (.tmp rfl) (by first | exact .row rfl rfl (by first | exact .here rfl | exact .there (.here rfl) rfl | exact .there (.there (.here rfl) rfl) rfl | exact .there (.there (.there (.here rfl) rfl) rfl) rfl | exact .there (.there (.there (.there (.here rfl) rfl) rfl) rfl) rfl | exact .there (.there (.there (.there (.there (.here rfl) rfl) rfl) rfl) rfl) rfl | exact .there (.there (.there (.there (.there (.there (.here rfl) rfl) rfl) rfl) rfl) rfl) rfl | exact .there (.there (.there (.there (.there (.there (.there (.here rfl) rfl) rfl) rfl) rfl) rfl) rfl) rfl | exact .there (.there (.there (.there (.there (.there (.there (.there (.here rfl) rfl) rfl) rfl) rfl) rfl) rfl) rfl) rfl | exact .there (.there (.there (.there (.there (.there (.there (.there (.there (.here rfl) rfl) rfl) rfl) rfl) rfl) rfl) rfl) rfl) rfl) | exact .nils) (by first | exact .row rfl | exact .vs | exact .sl rfl | exact .nils) (by first | exact hro_nil | exact hro_one rfl) Tryd.underlying22 cells_5 bytes_5 zero_5 rfl (by decide) (by rw [length_I, length_padM]; omega) (by first | rfl | exact one_takeI) (len_pad _) (by unfold paddedM; exact app_I (length_padM _)) (by simp only [maxLen]; omega) (by omega) rfl rfl)) ?_
    refine WL_cons hC.fn (.plain rfl (oc_assign hC (.tmp rfl) rfl rfl)) ?_
    refine WL_nil ?_
    refine W_seq ?_
    refine W_region ?_
    refine WL_cons hC.fn (.plain rfl (oc_call hC .nil (.same (by first | exact inSL_I _ | simp)) (start_c) glob_nil (by first | exact inSL_I _ | simp) (by first | exact .inl rfl | exact .inr (by simp)) rfl rfl)) ?_
    refine WL_cons hC.fn (.plain rfl (ox_alloc hC zero_40 rfl rfl rfl)) ?_
    refine WL_cons hC.fn (.plain rfl (ox_store hC (.tmp rfl) (.tmp rfl) rfl shp_40 (by first | rfl | exact flat_agI) (by first | exact cells1 rfl | (rw [cells_ag, length_I]; omega) | rfl | (simp <;> fail) | (simp; omega)) (by first | exact Nat.le_refl _ | decide | (simp <;> fail) | (simp; omega)) (by first | exact put_allI (by first | omega | (simp; omega)) | exact put_all (by rw [length_I]; first | omega | (simp; omega)) | exact put_all rfl) (by first | exact .here | exact .there (.here) rfl | exact .there (.there (.here) rfl) rfl | exact .there (.there (.there (.here) rfl) rfl) rfl | exact .there (.there (.there (.there (.here) rfl) rfl) rfl) rfl | exact .there (.there (.there (.there (.there (.here) rfl) rfl) rfl) rfl) rfl | exact .there (.there (.there (.there (.there (.there (.here) rfl) rfl) rfl) rfl) rfl) rfl | exact .there (.there (.there (.there (.there (.there (.there (.here) rfl) rfl) rfl) rfl) rfl) rfl) rfl | exact .there (.there (.there (.there (.there (.there (.there (.there (.here) rfl) rfl) rfl) rfl) rfl) rfl) rfl) rfl | exact .there (.there (.there (.there (.there (.there (.there (.there (.there (.here) rfl) rfl) rfl) rfl) rfl) rfl) rfl) rfl) rfl) rfl)) ?_
    refine WL_nil ?_
    refine W_seq ?_
    refine W_blk ?_
    refine W_weak (weak_sl (t := 3) rfl rfl) ?_
    refine W_loopW (fun (ζ : Nat) => ⟨3, [(2, .p 0 0), (3, .sl 1 (64 * ζ) (64 * (nblk M.length - ζ))), (6, .p 2 0), (1000000, .rp (I .u32 tbl))], [(0, .blk 24 (I .u8 (List.replicate 32 0))), (1, .row 5 1 (64 * nblk M.length) (I .u8 (paddedM M))), (2, .blk 40 (I .u32 (sumAt tbl (paddedM M) start8 ζ)))]⟩) (fun ζ => ζ ≤ nblk M.length) (fun ζ => nblk M.length - ζ) (0) (Nat.zero_le _) (weak (fun k => bif Nat.beq k 2 then 4 else bif Nat.beq k 1 then 3 else k) (.cons rfl (by first | rfl | simp) (by show _ < _; decide) (.cons rfl rfl (by show _ < _; decide) (.cons rfl (by first | rfl | simp) (by show _ < _; decide) (.cons rfl (by first | exact ren_agI | exact ren_vsI | exact ren_free _ _ (by first | exact inSL_I _ | simp)) (by first | exact inSL_I _ | simp) .nil)))) (.cons rfl (by first | exact ren_blkI | exact ren_rowI | rfl | exact Blk.ren_free (by simp) _) rfl (by first | exact inSL_I _ | simp) (.cons rfl (by first | exact ren_blkI | exact ren_rowI | rfl | exact Blk.ren_free (by simp) _) rfl (by first | exact inSL_I _ | simp) (.cons rfl (renBlk sumAt_zero) rfl (by first | exact inSL_I _ | simp) .nil))) rfl rfl rfl) ?_
    intro i hR
    replace hR : i ≤ nblk M.length := hR
    first | show W _ _ _ ⟨3, [(2, .p 0 0), (3, .sl 1 (64 * i) (64 * (nblk M.length - i))), (6, .p 2 0), (1000000, .rp (I .u32 tbl))], [(0, .blk 24 (I .u8 (List.replicate 32 0))), (1, .row 5 1 (64 * nblk M.length) (I .u8 (paddedM M))), (2, .blk 40 (I .u32 (sumAt tbl (paddedM M) start8 i)))]⟩ | skip
    have hsl := length_sumAt (ks := tbl) (m := paddedM M) (s := start8) rfl i
    have hsw := W32_sumAt (ks := tbl) (m := paddedM M) W32_start8 i
    refine W_seq ?_
    refine W_seq ?_
    refine W_region ?_
    refine WL_cons hC.fn (.plain rfl (oc_move hC (.tmp rfl) rfl rfl)) ?_
    refine WL_cons hC.fn (.plain rfl (ox_len hC (.tmp rfl) (by first | exact .row rfl | exact .vs | exact .sl rfl | exact .nils) Tryd.underlying22 rfl rfl rfl)) ?_
    refine WL_cons hC.fn (.plain rfl (ox_cmp hC rfl (.tmp rfl) .cint rfl rfl rfl)) ?_
    refine WL_nil ?_
    refine W_cond rfl (by decide) (fun hc => ?_) (fun hc => ?_)
    ·
      replace hc := gtr_t hc
      refine W_skip ?_
      refine W_seq ?_
      refine W_blk ?_
      refine W_drawD hC ?_
      refine WD_cons (.plain rfl (oc_load hC (.tmp rfl) (by first | exact .p rfl | exact .rp) shp_40 (by first | exact unit_blkI (by first | omega | (simp <;> fail) | (simp; omega)) | exact unit_rowI (by first | omega | (simp; omega)) | exact unit_all (by first | omega | (simp <;> fail) | (simp; omega)) | exact unit_takeI0 (by first | omega | (simp; omega)) | exact unit_takeI (by first | omega | (simp; omega)) | exact unit_agg rfl) rfl rfl)) ?_
      refine WD_cons (.plain rfl (oc_move hC (.tmp rfl) rfl rfl)) ?_
      refine WD_cons (.plain rfl (oc_arr hC (.tmp rfl) idx_43 (by first | exact .row rfl | exact .sl | exact .vs (by first | omega | (simp; omega))) (by decide) (by first | omega | (simp; omega)) rfl rfl)) ?_
      refine WD_cons (.plain rfl (oc_load hC (.tmp rfl) (by first | exact .p rfl | exact .rp) shp_43 (by first | exact unit_blkI (by first | omega | (simp <;> fail) | (simp; omega)) | exact unit_rowI (by first | omega | (simp; omega)) | exact unit_all (by first | omega | (simp <;> fail) | (simp; omega)) | exact unit_takeI0 (by first | omega | (simp; omega)) | exact unit_takeI (by first | omega | (simp; omega)) | exact unit_agg rfl) rfl rfl)) ?_
      refine WD_cons (.plain rfl (oc_call hC (.cons (.tmp rfl) (.cons (.tmp rfl) .nil)) (.cons1 (.free (by first | exact inSL_I _ | simp)) (.cons1 (.free (by first | exact inSL_I _ | simp)) (.same (by first | exact inSL_I _ | simp)))) (block_c _ _ hsl (by simp; omega) hsw (B8_cut hP _ _)) (glob_cons rfl rfl (by first | exact inSL_I _ | simp) glob_nil) (by first | exact inSL_I _ | simp) (by first | exact .inl rfl | exact .inr (by simp)) rfl rfl)) ?_
      refine WD_cons (.plain rfl (ox_store hC (.tmp rfl) (.tmp rfl) rfl shp_40 (by first | rfl | exact flat_agI) (by rw [cells_ag, length_I, length_block]) (by first | exact Nat.le_refl _ | decide | (simp <;> fail) | (simp; omega)) (put_allI (by rw [length_block]; exact hsl)) (by first | exact .here | exact .there (.here) rfl | exact .there (.there (.here) rfl) rfl | exact .there (.there (.there (.here) rfl) rfl) rfl | exact .there (.there (.there (.there (.here) rfl) rfl) rfl) rfl | exact .there (.there (.there (.there (.there (.here) rfl) rfl) rfl) rfl) rfl | exact .there (.there (.there (.there (.there (.there (.here) rfl) rfl) rfl) rfl) rfl) rfl | exact .there (.there (.there (.there (.there (.there (.there (.here) rfl) rfl) rfl) rfl) rfl) rfl) rfl | exact .there (.there (.there (.there (.there (.there (.there (.there (.here) rfl) rfl) rfl) rfl) rfl) rfl) rfl) rfl | exact .there (.there (.there (.there (.there (.there (.there (.there (.there (.here) rfl) rfl) rfl) rfl) rfl) rfl) rfl) rfl) rfl) rfl)) ?_
      refine WD_nil (by kernel_rfl) ?_
      refine W_region ?_
      refine WL_cons hC.fn (.plain rfl (oc_move hC (.tmp rfl) rfl rfl)) ?_
      refine WL_cons hC.fn (.plain rfl (ox_cutS hC (.tmp rfl) (.yes (n := 64) .cint rfl) .no idx_22 (by first | exact .row rfl (Nat.mul_one _) | exact .sl rfl | exact .vs (by first | omega | (simp; omega)) | exact .nils) (by first | omega | (simp; omega)) (by first | omega | (simp; omega)) (by first | exact cut_vsI | rfl) rfl rfl)) ?_
      refine WL_cons hC.fn (.plain rfl (oc_assign hC (.tmp rfl) rfl rfl)) ?_
      refine WL_nil ?_
      exact ⟨(i + 1), (by omega), (weak (fun k => k) (.cons rfl (by first | rfl | simp) (by show _ < _; decide) (.cons rfl (by show AV.sl 1 _ _ = AV.sl 1 _ _; congr 1 <;> omega) (by show _ < _; decide) (.cons rfl (by first | rfl | simp) (by show _ < _; decide) (.cons rfl (by first | exact ren_agI | exact ren_vsI | exact ren_free _ _ (by first | exact inSL_I _ | simp)) (by first | exact inSL_I _ | simp) .nil)))) (.cons rfl (by first | exact ren_blkI | exact ren_rowI | rfl | exact Blk.ren_free (by simp) _) rfl (by first | exact inSL_I _ | simp) (.cons rfl (by first | exact ren_blkI | exact ren_rowI | rfl | exact Blk.ren_free (by simp) _) rfl (by first | exact inSL_I _ | simp) (.cons rfl (renBlk sumAt_succ) rfl (by first | exact inSL_I _ | simp) .nil))) rfl rfl rfl), (by omega)⟩
    ·
      replace hc := gtr_f hc
      obtain rfl : i = nblk M.length := by omega
      refine W_exit ?_
      refine W_seq ?_
      refine W_region ?_
      refine WL_cons hC.fn (.plain rfl (ox_alloc hC zero_24 rfl rfl rfl)) ?_
      refine WL_nil ?_
      refine W_seq ?_
      refine W_seq ?_
      refine W_region ?_
      refine WL_cons hC.fn (.plain rfl (oc_load hC (.tmp rfl) (by first | exact .p rfl | exact .rp) shp_40 (by first | exact unit_blkI (by first | omega | (simp <;> fail) | (simp; omega)) | exact unit_rowI (by first | omega | (simp; omega)) | exact unit_all (by first | omega | (simp <;> fail) | (simp; omega)) | exact unit_takeI0 (by first | omega | (simp; omega)) | exact unit_takeI (by first | omega | (simp; omega)) | exact unit_agg rfl) rfl rfl)) ?_
      refine WL_cons hC.fn (.plain rfl (oc_move hC .cint rfl rfl)) ?_
      refine WL_nil ?_
      refine W_blk ?_
      refine W_loopW (fun (ζ : Nat) => ⟨4, [(2, .p 0 0), (7, .p 3 0), (37, .ag (I .u32 (sumAt tbl (paddedM M) start8 (nblk M.length)))), (38, .i .i64 ζ), (1000000, .rp (I .u32 tbl))], [(0, .blk 24 (I .u8 (List.replicate 32 0))), (3, .blk 24 (I .u8 (outP (sumAt tbl (paddedM M) start8 (nblk M.length)) (4 * ζ))))]⟩) (fun ζ => ζ ≤ 8) (fun ζ => 8 - ζ) (0) (by simp) (weak (fun k => k) (.cons rfl (by first | rfl | simp) (by show _ < _; decide) (.cons rfl (by first | rfl | simp) (by show _ < _; decide) (.cons rfl (by first | exact ren_agI | exact ren_vsI | exact ren_free _ _ (by first | exact inSL_I _ | simp)) (by first | exact inSL_I _ | simp) (.cons rfl rfl trivial (.cons rfl (by first | exact ren_agI | exact ren_vsI | exact ren_free _ _ (by first | exact inSL_I _ | simp)) (by first | exact inSL_I _ | simp) .nil))))) (.cons rfl (by first | exact ren_blkI | exact ren_rowI | rfl | exact Blk.ren_free (by simp) _) rfl (by first | exact inSL_I _ | simp) (.cons rfl (renBlk outP_zero) rfl (by first | exact inSL_I _ | simp) .nil)) rfl rfl rfl) ?_
      intro i hR
      replace hR : i ≤ 8 := hR
      first | show W _ _ _ ⟨4, [(2, .p 0 0), (7, .p 3 0), (37, .ag (I .u32 (sumAt tbl (paddedM M) start8 (nblk M.length)))), (38, .i .i64 i), (1000000, .rp (I .u32 tbl))], [(0, .blk 24 (I .u8 (List.replicate 32 0))), (3, .blk 24 (I .u8 (outP (sumAt tbl (paddedM M) start8 (nblk M.length)) (4 * i))))]⟩ | skip
      refine W_seq ?_
      refine W_region ?_
      refine WL_cons hC.fn (.plain rfl (ox_cmp hC rfl (.tmp rfl) .cint rfl rfl rfl)) ?_
      refine WL_nil ?_
      refine W_seq ?_
      refine W_cond rfl (by decide) (fun hc => ?_) (fun hc => ?_)
      ·
        replace hc := lss_t hc
        refine W_skip ?_
        refine W_seq ?_
        refine W_blk ?_
        refine W_seq ?_
        refine W_region ?_
        refine WL_cons hC.fn (.plain rfl (oc_move hC (.tmp rfl) rfl rfl)) ?_
        refine WL_cons hC.fn (.plain rfl (ox_index hC  (.tmp rfl) (.tmp rfl) elt_40 (by first | rfl | exact toNat_up (by omega)) (by first | omega | (simp; omega)) (by first | exact Nat.mul_one _ | rfl) (by first | omega | (simp; omega)) (by first | exact unit_one rfl | exact unit_I (by first | omega | (simp; omega)) | exact unit_c rfl (by decide)) rfl rfl)) ?_
        refine WL_cons hC.fn (.plain rfl (oc_assign hC (.tmp rfl) rfl rfl)) ?_
        refine WL_cons hC.fn (.plain rfl (oc_assign hC (.tmp rfl) rfl rfl)) ?_
        refine WL_nil ?_
        refine W_seq ?_
        refine W_region ?_
        refine WL_cons hC.fn (.plain rfl (oc_move hC .cint rfl rfl)) ?_
        refine WL_nil ?_
        refine W_blk ?_
        refine W_loopW (fun (ζ : Nat) => ⟨4, [(2, .p 0 0), (7, .p 3 0), (37, .ag (I .u32 (sumAt tbl (paddedM M) start8 (nblk M.length)))), (38, .i .i64 i), (8, .i .i64 i), (9, .i .u32 ((sumAt tbl (paddedM M) start8 (nblk M.length)).getD i 0)), (42, .i .i64 ζ), (1000000, .rp (I .u32 tbl))], [(0, .blk 24 (I .u8 (List.replicate 32 0))), (3, .blk 24 (I .u8 (outP (sumAt tbl (paddedM M) start8 (nblk M.length)) (4 * i + ζ))))]⟩) (fun ζ => ζ ≤ 4) (fun ζ => 4 - ζ) (0) (by simp) (weak (fun k => k) (.cons rfl (by first | rfl | simp) (by show _ < _; decide) (.cons rfl (by first | rfl | simp) (by show _ < _; decide) (.cons rfl (by first | exact ren_agI | exact ren_vsI | exact ren_free _ _ (by first | exact inSL_I _ | simp)) (by first | exact inSL_I _ | simp) (.cons rfl (by first | rfl | exact congrArg (AV.i _) (by omega) | exact congrArg (AV.i _) (by simp; omega)) trivial (.cons rfl (by first | rfl | exact congrArg (AV.i _) (by omega) | exact congrArg (AV.i _) (by simp; omega)) trivial (.cons rfl (by first | rfl | exact congrArg (AV.i _) (by omega) | exact congrArg (AV.i _) (by simp; omega)) trivial (.cons rfl rfl trivial (.cons rfl (by first | exact ren_agI | exact ren_vsI | exact ren_free _ _ (by first | exact inSL_I _ | simp)) (by first | exact inSL_I _ | simp) .nil)))))))) (.cons rfl (by first | exact ren_blkI | exact ren_rowI | rfl | exact Blk.ren_free (by simp) _) rfl (by first | exact inSL_I _ | simp) (.cons rfl (renBlk rfl) rfl (by first | exact inSL_I _ | simp) .nil)) rfl rfl rfl) ?_
        intro k hR
        replace hR : k ≤ 4 := hR
        first | show W _ _ _ ⟨4, [(2, .p 0 0), (7, .p 3 0), (37, .ag (I .u32 (sumAt tbl (paddedM M) start8 (nblk M.length)))), (38, .i .i64 i), (8, .i .i64 i), (9, .i .u32 ((sumAt tbl (paddedM M) start8 (nblk M.length)).getD i 0)), (42, .i .i64 k), (1000000, .rp (I .u32 tbl))], [(0, .blk 24 (I .u8 (List.replicate 32 0))), (3, .blk 24 (I .u8 (outP (sumAt tbl (paddedM M) start8 (nblk M.length)) (4 * i + k))))]⟩ | skip
        have hlo := length_outP (s := sumAt tbl (paddedM M) start8 (nblk M.length)) (j := 4 * i + k) (by omega)
        refine W_seq ?_
        refine W_region ?_
        refine WL_cons hC.fn (.plain rfl (ox_cmp hC rfl (.tmp rfl) .cint rfl rfl rfl)) ?_
        refine WL_nil ?_
        refine W_seq ?_
        refine W_cond rfl (by decide) (fun hc => ?_) (fun hc => ?_)
        ·
          replace hc := lss_t hc
          refine W_skip ?_
          refine W_seq ?_
          refine W_blk ?_
          refine W_seq ?_
          refine W_region ?_
          refine WL_cons hC.fn (.plain rfl (oc_move hC (.tmp rfl) rfl rfl)) ?_
          refine WL_cons hC.fn (.plain rfl (oc_assign hC (.tmp rfl) rfl rfl)) ?_
          refine WL_nil ?_
          refine W_region ?_
          refine WL_cons hC.fn (.plain rfl (oc_move hC (.tmp rfl) rfl rfl)) ?_
          refine WL_cons hC.fn (.plain rfl (oc_bin hC rfl .cint (.tmp rfl) (by first | exact i64_mul (by omega) | rfl) rfl rfl)) ?_
          refine WL_cons hC.fn (.plain rfl (oc_move hC (.tmp rfl) rfl rfl)) ?_
          refine WL_cons hC.fn (.plain rfl (oc_bin hC rfl (.tmp rfl) (.tmp rfl) (by first | exact i64_add (by omega) | rfl) rfl rfl)) ?_
          refine WL_cons hC.fn (.plain rfl (oc_move hC (.tmp rfl) rfl rfl)) ?_
          refine WL_cons hC.fn (.plain rfl (oc_move hC (.tmp rfl) rfl rfl)) ?_
          refine WL_cons hC.fn (.plain rfl (oc_bin hC rfl .cint (.tmp rfl) (by first | exact i64_mul (by omega) | rfl) rfl rfl)) ?_
          refine WL_cons hC.fn (.plain rfl (oc_bin hC rfl .cint (.tmp rfl) (by first | exact i64_sub (by omega) | rfl) rfl rfl)) ?_
          refine WL_cons hC.fn (.plain rfl (oc_shift hC (.inr rfl) (.tmp rfl) (.tmp rfl) (by first | decide | omega) rfl rfl rfl)) ?_
          refine WL_cons hC.fn (.plain rfl (oc_conv hC (.tmp rfl) rfl Tryd.underlying5 (r := outB (sumAt tbl (paddedM M) start8 (nblk M.length)) (4 * i + k)) (out_byte (by omega)) rfl rfl)) ?_
          refine WL_cons hC.fn (.plain rfl (ox_indexA hC (j := 4 * i + k) (.tmp rfl) (.tmp rfl) idx_24 (by first | rfl | omega | (simp; omega)) (by first | omega | (simp; omega)) (by first | exact Nat.mul_one _ | rfl) (by first | exact .p (Nat.zero_add _) | exact .p rfl | exact .rp (by first | omega | (simp; omega))) rfl rfl)) ?_
          refine WL_cons hC.fn (.plain rfl (ox_store hC (.tmp rfl) (.tmp rfl) rfl shp_5 (by first | rfl | exact flat_agI) (by first | exact cells1 rfl | (rw [cells_ag, length_I]; omega) | rfl | (simp <;> fail) | (simp; omega)) (by show 4 * i + k + 1 ≤ (I .u8 _).length; rw [length_I, hlo]; omega) (put_blkI (by rw [hlo]; show 4 * i + k < 32; omega)) (by first | exact .here | exact .there (.here) rfl | exact .there (.there (.here) rfl) rfl | exact .there (.there (.there (.here) rfl) rfl) rfl | exact .there (.there (.there (.there (.here) rfl) rfl) rfl) rfl | exact .there (.there (.there (.there (.there (.here) rfl) rfl) rfl) rfl) rfl | exact .there (.there (.there (.there (.there (.there (.here) rfl) rfl) rfl) rfl) rfl) rfl | exact .there (.there (.there (.there (.there (.there (.there (.here) rfl) rfl) rfl) rfl) rfl) rfl) rfl | exact .there (.there (.there (.there (.there (.there (.there (.there (.here) rfl) rfl) rfl) rfl) rfl) rfl) rfl) rfl | exact .there (.there (.there (.there (.there (.there (.there (.there (.there (.here) rfl) rfl) rfl) rfl) rfl) rfl) rfl) rfl) rfl) rfl)) ?_
          refine WL_nil ?_
          refine W_region ?_
          refine WL_cons hC.fn (.plain rfl (oc_bin hC rfl (.tmp rfl) .cint (by first | exact i64_add (by omega) | rfl) rfl rfl)) ?_
          refine WL_cons hC.fn (.plain rfl (oc_move hC (.tmp rfl) rfl rfl)) ?_
          refine WL_nil ?_
          exact ⟨(k + 1), (by omega), (weak (fun k => k) (.cons rfl (by first | rfl | simp) (by show _ < _; decide) (.cons rfl (by first | rfl | simp) (by show _ < _; decide) (.cons rfl (by first | exact ren_agI | exact ren_vsI | exact ren_free _ _ (by first | exact inSL_I _ | simp)) (by first | exact inSL_I _ | simp) (.cons rfl (by first | rfl | exact congrArg (AV.i _) (by omega) | exact congrArg (AV.i _) (by simp; omega)) trivial (.cons rfl (by first | rfl | exact congrArg (AV.i _) (by omega) | exact congrArg (AV.i _) (by simp; omega)) trivial (.cons rfl (by first | rfl | exact congrArg (AV.i _) (by omega) | exact congrArg (AV.i _) (by simp; omega)) trivial (.cons rfl (by first | rfl | exact congrArg (AV.i _) (by omega) | exact congrArg (AV.i _) (by simp; omega)) trivial (.cons rfl (by first | exact ren_agI | exact ren_vsI | exact ren_free _ _ (by first | exact inSL_I _ | simp)) (by first | exact inSL_I _ | simp) .nil)))))))) (.cons rfl (by first | exact ren_blkI | exact ren_rowI | rfl | exact Blk.ren_free (by simp) _) rfl (by first | exact inSL_I _ | simp) (.cons rfl (renBlk (outP_succ (j := 4 * i + k) (by omega)).symm) rfl (by first | exact inSL_I _ | simp) .nil)) rfl rfl rfl), (by omega)⟩
        ·
          replace hc := lss_f hc
          obtain rfl : k = 4 := by omega
          refine W_exit ?_
          refine W_region ?_
          refine WL_cons hC.fn (.plain rfl (oc_bin hC rfl (.tmp rfl) .cint (by first | exact i64_add (by omega) | rfl) rfl rfl)) ?_
          refine WL_cons hC.fn (.plain rfl (oc_move hC (.tmp rfl) rfl rfl)) ?_
          refine WL_nil ?_
          exact ⟨(i + 1), (by omega), (weak (fun k => k) (.cons rfl (by first | rfl | simp) (by show _ < _; decide) (.cons rfl (by first | rfl | simp) (by show _ < _; decide) (.cons rfl (by first | exact ren_agI | exact ren_vsI | exact ren_free _ _ (by first | exact inSL_I _ | simp)) (by first | exact inSL_I _ | simp) (.cons rfl (by first | rfl | exact congrArg (AV.i _) (by omega) | exact congrArg (AV.i _) (by simp; omega)) trivial (.cons rfl (by first | exact ren_agI | exact ren_vsI | exact ren_free _ _ (by first | exact inSL_I _ | simp)) (by first | exact inSL_I _ | simp) .nil))))) (.cons rfl (by first | exact ren_blkI | exact ren_rowI | rfl | exact Blk.ren_free (by simp) _) rfl (by first | exact inSL_I _ | simp) (.cons rfl (renBlk (congrArg (outP _) (by omega))) rfl (by first | exact inSL_I _ | simp) .nil)) rfl rfl rfl), (by omega)⟩
      ·
        replace hc := lss_f hc
        obtain rfl : i = 8 := by omega
        have hlo := length_outP (s := sumAt tbl (paddedM M) start8 (nblk M.length)) (j := 4 * 8) (by omega)
        refine W_exit ?_
        refine W_seq ?_
        refine W_region ?_
        refine WL_cons hC.fn (.plain rfl (oc_load hC (.tmp rfl) (by first | exact .p rfl | exact .rp) shp_24 (by first | exact unit_blkI (by first | omega | (simp <;> fail) | (simp; omega)) | exact unit_rowI (by first | omega | (simp; omega)) | exact unit_all (by first | omega | (simp <;> fail) | (simp; omega)) | exact unit_takeI0 (by first | omega | (simp; omega)) | exact unit_takeI (by first | omega | (simp; omega)) | exact unit_agg rfl) rfl rfl)) ?_
        refine WL_cons hC.fn (.plain rfl (ox_store hC (.tmp rfl) (.tmp rfl) rfl shp_24 (by first | rfl | exact flat_agI) (by first | exact cells1 rfl | (rw [cells_ag, length_I]; omega) | rfl | (simp <;> fail) | (simp; omega)) (by first | exact Nat.le_refl _ | decide | (simp <;> fail) | (simp; omega)) (put_allI (by rw [hlo]; rfl)) (by first | exact .here | exact .there (.here) rfl | exact .there (.there (.here) rfl) rfl | exact .there (.there (.there (.here) rfl) rfl) rfl | exact .there (.there (.there (.there (.here) rfl) rfl) rfl) rfl | exact .there (.there (.there (.there (.there (.here) rfl) rfl) rfl) rfl) rfl | exact .there (.there (.there (.there (.there (.there (.here) rfl) rfl) rfl) rfl) rfl) rfl | exact .there (.there (.there (.there (.there (.there (.there (.here) rfl) rfl) rfl) rfl) rfl) rfl) rfl | exact .there (.there (.there (.there (.there (.there (.there (.there (.here) rfl) rfl) rfl) rfl) rfl) rfl) rfl) rfl | exact .there (.there (.there (.there (.there (.there (.there (.there (.there (.here) rfl) rfl) rfl) rfl) rfl) rfl) rfl) rfl) rfl) rfl)) ?_
        refine WL_nil ?_
        refine W_ret ?_
        exact fin0 (.cons (.cell rfl (.p rfl) shp_24 (unit_blkI hlo)) .nil) (congrArg (fun l => AV.ag (I .u8 l)) (outP_end.trans (by unfold sha; rfl))) (by first | exact inSL_I _ | simp)
end Go.Proofs.YtnhmnolmfhcakaaDoor
