/- Own work, printed by a program of this claim: walks through functions of the program. -/
import Derived.Test.YtfngpppghlbanaaDoorW8
import Derived.Test.YtfngpppghlbanaaDoorProg
import Derived.KernelRfl
set_option linter.unusedSimpArgs false
set_option linter.unusedVariables false
namespace Go.Proofs.YtfngpppghlbanaaDoor
open Go.Sk Go.RowKit
attribute [local simp] AV.inSL AV.inS inSL_I Blk.inS Blk.cs AV.novs AV.novsL novsL_I AV.ren AV.cells AV.one lk tuAV
theorem bld_23 : bldOK Tryd.prog 23 = true := by kernel_rfl
theorem bld_25 : bldOK Tryd.prog 25 = true := by kernel_rfl
theorem bld_27 : bldOK Tryd.prog 27 = true := by kernel_rfl
theorem bld_40 : bldOK Tryd.prog 40 = true := by kernel_rfl
theorem eg_25 : Tryd.prog.eqGuardType Tryd.prog.depth 25 = false := by kernel_rfl
theorem eg_27 : Tryd.prog.eqGuardType Tryd.prog.depth 27 = false := by kernel_rfl
theorem kt_25 : Tryd.prog.keyTypeAt 8 25 = true := by kernel_rfl
theorem kt_27 : Tryd.prog.keyTypeAt 8 27 = true := by kernel_rfl
theorem sg_25 : shp Tryd.prog 25 = some (true, Tryd.prog.cellsOf 25) := by kernel_rfl
theorem sg_27 : shp Tryd.prog 27 = some (true, Tryd.prog.cellsOf 27) := by kernel_rfl
theorem sh_25 : shOf Tryd.prog 8 25 = some (.nums 32 .u8) := by kernel_rfl
theorem sh_27 : shOf Tryd.prog 8 27 = some (.nums 12 .u8) := by kernel_rfl
theorem zero_40 : zeroAV Tryd.prog 40 = some [.i .i64 0, .i .u8 0, .i .u8 0, .i .u8 0, .i .u8 0, .i .u8 0, .i .u8 0, .i .u8 0, .i .u8 0, .i .u8 0, .i .u8 0, .i .u8 0, .i .u8 0, .i .u8 0, .i .u8 0, .i .u8 0, .i .u8 0, .i .i64 0, .i .i64 0, .nils] := by kernel_rfl
set_option maxRecDepth 20000 in
set_option maxHeartbeats 4000000 in
theorem awake17_c  : FnC Tryd.prog 8 [(1000000, .rp (I .u32 tbl))] [] [] [] (.b true) := by
  have hM : RightR 2 0 300 ([98] : List Int).length ∧ (2 : Int) ≠ 1 := by unfold RightR; decide
  have hsl : (vseal [115] 2 (List.replicate 16 0) 0 300 [98]).length = 1 + 16 := length_vseal _ _ _ _ _ _
  have hMs : RightR 2 0 300 (vseal [115] 2 (List.replicate 16 0) 0 300 [98]).length ∧ (2 : Int) ≠ 1 := by rw [hsl]; unfold RightR; decide
  have bs : B8 (vseal [115] 2 (List.replicate 16 0) 0 300 [98]) := B8_vseal _ _ _ _ _ _
  refine FnC.introR (N0 := 0) (T := 51) (E := [(1000000, .rp (I .u32 tbl))]) Tryd.func8 rfl (by decide) mix rfl rfl rfl (by simp) rfl trivial (by simp) t_10 (fun F n0 X w ρ hC hro => ?_)
  refine wsr ?_
  refine wp rfl hC t_1d ?_
  refine WL_nil ?_
  refine wsr ?_
  refine wp rfl hC (ox_litRI (k := .u8) (ws := [98]) hC (.cons .cint .nil) Tryd.underlying22 cells_5 zero_5 rfl (by decide) rfl rfl t_5 rfl rfl rfl) ?_
  refine wp rfl hC t_4w ?_
  refine WL_weak (weak_frz (t := 7) (b := [98]) rfl rfl (.here rfl) rfl) ?_
  refine wp rfl hC (ox_build (out' := recX 2 (List.replicate 16 0) 0 300 (bodyV [98])) hC (.cons .cint (.cons .cint (.cons (.tmp rfl) .nil))) zero_33 bld_33 rfl t_14 rfl rfl) ?_
  refine wp rfl hC t_3h ?_
  refine wp rfl hC (ox_store (bk' := .blk 33 (recX 2 (List.replicate 16 0) 0 300 (bodyV [98]))) hC (.tmp rfl) (.tmp rfl) rfl shp_33 (flat_recX rfl) t_1r t_1a (put_rall rfl rfl) t_f rfl) ?_
  refine WL_nil ?_
  refine wsr ?_
  refine wp rfl hC t_5t ?_
  refine wp rfl hC t_4w ?_
  refine wp rfl hC t_4n ?_
  refine WL_weak (weak_frz (t := 11) (b := [115]) rfl rfl (.here rfl) rfl) ?_
  refine wp rfl hC (oc_call hC (.cons (.tmp rfl) (.cons (.tmp rfl) .nil)) (.cons1 t_31 (.cons1 (.free t_0) (.same t_0))) (vclose_c [115] t_25 (by decide) 2 (List.replicate 16 0) 0 300 [98] rfl (B8_zeros 16) t_25 hM (by decide)) (glob_cons rfl rfl t_0 glob_nil) t_0 t_8 rfl rfl) ?_
  refine wp rfl hC t_1 ?_
  refine wp rfl hC t_l ?_
  refine wp rfl hC t_l ?_
  refine wp rfl hC t_3h ?_
  refine wp rfl hC (ox_store (bk' := .blk 33 (recX 2 (List.replicate 16 0) 0 300 (bodyV (vseal [115] 2 (List.replicate 16 0) 0 300 [98])))) hC (.tmp rfl) (.tmp rfl) rfl shp_33 (flat_recX rfl) t_1r t_1a (put_rall rfl rfl) t_f rfl) ?_
  refine wp rfl hC t_4 ?_
  refine WL_nil ?_
  refine wsr ?_
  refine wp rfl hC t_5t ?_
  refine wp rfl hC t_4w ?_
  refine wp rfl hC t_4n ?_
  refine wp rfl hC (oc_callN hC (.cons (.tmp rfl) (.cons (.tmp rfl) .nil)) (.cons1 t_31 (.cons1 (.free t_0) (.same t_0))) (vopen_c [115] t_25 (by decide) 2 (List.replicate 16 0) 0 300 [98] rfl (B8_zeros 16) t_25 hMs (by decide)) (glob_cons rfl rfl t_0 glob_nil) t_0 rfl t_q rfl rfl) ?_
  refine wp rfl hC t_1 ?_
  refine wp rfl hC t_l ?_
  refine wp rfl hC t_l ?_
  refine wp rfl hC t_4 ?_
  refine wp rfl hC t_4 ?_
  refine WL_nil ?_
  refine wsr ?_
  refine wp rfl hC t_1 ?_
  refine wp rfl hC t_1q ?_
  refine wp rfl hC t_1 ?_
  refine WL_cons hC.fn t_3d ?_
  refine WL_cons hC.fn t_4f ?_
  refine wp rfl hC t_2z ?_
  refine wp rfl hC t_1 ?_
  refine WL_cons hC.fn t_3d ?_
  refine WL_cons hC.fn (.yes rfl rfl (by decide) rfl (ox_b2s (l := [98]) hC (.tmp rfl) t_a (take_allI rfl) rfl Tryd.underlying22 Tryd.underlying5 Tryd.underlying9 rfl rfl)) ?_
  refine WL_cons hC.fn (.yes rfl rfl (by decide) rfl (ox_eqs hC (.inl rfl) (.tmp rfl) .cstr (r := true) (by decide) rfl rfl)) ?_
  refine wp rfl hC t_2z ?_
  refine wp rfl hC t_1 ?_
  refine WL_cons hC.fn t_6f ?_
  refine WL_cons hC.fn (.yes rfl rfl (by decide) rfl (oc_load hC (.tmp rfl) t_3 shp_22 (by exact (unit_rz rfl)) rfl rfl)) ?_
  refine WL_cons hC.fn (.yes rfl rfl (by decide) rfl (ox_len hC (.tmp rfl) t_a Tryd.underlying22 (r := (((vseal [115] 2 (List.replicate 16 0) 0 300 [98]).length : Nat) : Int)) rfl rfl rfl)) ?_
  refine WL_cons hC.fn t_6i ?_
  refine wp rfl hC t_2z ?_
  refine wp rfl hC t_1 ?_
  refine WL_cons hC.fn (.yes rfl rfl (by decide) rfl (oc_call hC (.cons .cint (.cons .cint .nil)) (.cons1 (.free t_0) (.cons1 (.free t_0) (.same t_0))) (vnon_c 2 300) glob_nil t_0 t_8 rfl rfl)) ?_
  rw [vnon_w]
  refine WL_cons hC.fn (.yes rfl rfl (by decide) rfl (ox_build (out' := I .u8 [2, 0, 0, 0, 44, 1, 0, 0, 0, 0, 0, 0]) hC (.cons .cint (.cons .cint (.cons .cint (.cons .cint (.cons .cint (.cons .cint .nil)))))) zero_27 bld_27 rfl rfl rfl rfl)) ?_
  refine WL_cons hC.fn (.yes rfl rfl (by decide) rfl (ox_eqI (r := true) hC (.inl rfl) (.tmp rfl) (.tmp rfl) sh_27 kt_27 sg_27 eg_27 rfl rfl (wf_u8 t_25) (wf_u8 t_25) (by simp) rfl rfl)) ?_
  refine wp rfl hC t_2z ?_
  refine wp rfl hC t_1 ?_
  refine WL_cons hC.fn (.yes rfl rfl (by decide) rfl (ox_build (out' := I .u8 (List.replicate 16 0)) hC .nil zero_23 bld_23 rfl rfl rfl rfl)) ?_
  refine WL_cons hC.fn (.yes rfl rfl (by decide) rfl (oc_call hC (.cons .cnils (.cons (.tmp rfl) .nil)) (.cons1 t_31 (.cons1 (.free t_0) (.same t_0))) (vkey_c [] (by intro x hx; cases hx) (by decide) (List.replicate 16 0) rfl (B8_zeros 16)) (glob_cons rfl rfl t_0 glob_nil) t_0 t_8 rfl rfl)) ?_
  refine WL_cons hC.fn (.yes rfl rfl (by decide) rfl (ox_build (out' := I .u8 (List.replicate 32 0)) hC .nil zero_25 bld_25 rfl rfl rfl rfl)) ?_
  refine WL_cons hC.fn (.yes rfl rfl (by decide) rfl (ox_eqI (r := true) hC (.inr rfl) (.tmp rfl) (.tmp rfl) sh_25 kt_25 sg_25 eg_25 (length_vkey _ _) rfl (wf_u8 (B8_vkey _ _)) (wf_u8 (B8_zeros 32)) (by exact (if_neg (by decide)).trans (decide_eq_true vkey_ne)) rfl rfl)) ?_
  refine wp rfl hC t_2z ?_
  refine wp rfl hC t_4 ?_
  refine WL_nil ?_
  refine W_ret ?_
  exact fin0 (.cons (.tmp rfl) .nil) rfl trivial
end Go.Proofs.YtfngpppghlbanaaDoor
