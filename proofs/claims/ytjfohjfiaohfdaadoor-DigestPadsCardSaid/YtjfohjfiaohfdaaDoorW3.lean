/- Own work, printed by a program of this claim: walks through the statements. -/
import Derived.Test.YtjfohjfiaohfdaaDoorW2
import Derived.Test.YtjfohjfiaohfdaaDoorProg
import Derived.KernelRfl
set_option linter.unusedSimpArgs false
set_option linter.unusedVariables false
namespace Go.Proofs.YtjfohjfiaohfdaaDoor
open Go.Sk Go.RowKit
attribute [local simp] AV.inSL AV.inS inSL_I Blk.inS Blk.cs AV.novs AV.novsL novsL_I AV.ren AV.cells AV.one lk tuAV
theorem cells_22 : Tryd.prog.cellsOf 22 = 1 := by kernel_rfl
theorem eg_24 : Tryd.prog.eqGuardType Tryd.prog.depth 24 = false := by kernel_rfl
theorem kt_24 : Tryd.prog.keyTypeAt 8 24 = true := by kernel_rfl
theorem sg_24 : shp Tryd.prog 24 = some (true, Tryd.prog.cellsOf 24) := by kernel_rfl
theorem sh_24 : shOf Tryd.prog 8 24 = some (.nums 32 .u8) := by kernel_rfl
theorem zero_22 : zeroAV Tryd.prog 22 = some [.nils] := by kernel_rfl

set_option maxRecDepth 20000 in
set_option maxHeartbeats 4000000 in
theorem awake03_c  : FnC Tryd.prog 9 [(1000000, .rp (I .u32 tbl))] [] [] [] (.b true) := by
  refine FnC.intro (N0 := 0) (T := 39) (E := [(1000000, .rp (I .u32 tbl))]) Tryd.func9 rfl (by decide) mix rfl rfl rfl (by simp) rfl trivial (by simp) (by intro S _ _ h; simp) (fun F n0 X w ρ hC => ?_)
  refine W_seq ?_
  refine W_region ?_
  refine WL_cons hC.fn (.plain rfl (oc_assign hC .cbool rfl rfl)) ?_
  refine WL_nil ?_
  refine W_seq ?_
  refine W_region ?_
  refine WL_cons hC.fn (.plain rfl (ox_litRI (k := .u8) (ws := [97, 98, 99]) hC (.cons .cint (.cons .cint (.cons .cint .nil))) Tryd.underlying22 cells_5 zero_5 rfl (by decide) rfl rfl (by first | rfl | simp) rfl rfl rfl)) ?_
  refine WL_cons hC.fn (.plain rfl (oc_same hC (.tmp rfl) rfl (by decide) Tryd.underlying22 Tryd.underlying5 (by first | exact .here | exact .there (.here) rfl | exact .there (.there (.here) rfl) rfl | exact .there (.there (.there (.here) rfl) rfl) rfl | exact .there (.there (.there (.there (.here) rfl) rfl) rfl) rfl | exact .there (.there (.there (.there (.there (.here) rfl) rfl) rfl) rfl) rfl | exact .there (.there (.there (.there (.there (.there (.here) rfl) rfl) rfl) rfl) rfl) rfl | exact .there (.there (.there (.there (.there (.there (.there (.here) rfl) rfl) rfl) rfl) rfl) rfl) rfl | exact .there (.there (.there (.there (.there (.there (.there (.there (.here) rfl) rfl) rfl) rfl) rfl) rfl) rfl) rfl | exact .there (.there (.there (.there (.there (.there (.there (.there (.there (.here) rfl) rfl) rfl) rfl) rfl) rfl) rfl) rfl) rfl) rfl rfl)) ?_
  refine WL_cons hC.fn (.plain rfl (ox_lit hC (.cons (.tmp rfl) .nil) Tryd.underlying42 cells_22 zero_22 rfl (by decide) rfl rfl (by first | rfl | simp) rfl rfl)) ?_
  refine WL_cons hC.fn (.plain rfl (oc_call hC (.cons (.tmp rfl) .nil) (.vs (.row rfl (.same (inSL_I _)) (.same trivial)) (.same trivial)) (of_c [(3, [97, 98, 99])] 1 rfl (by decide) (by intro p hp; simp only [List.mem_cons, List.not_mem_nil, or_false] at hp; subst hp; exact ⟨rfl, by unfold B8; decide⟩) (by decide)) (glob_cons rfl rfl (by first | exact inSL_I _ | simp) glob_nil) (by first | exact inSL_I _ | simp) (by first | exact .inl rfl | exact .inr (by simp)) rfl rfl)) ?_
  rw [show sha tbl (List.map (·.2) [((3 : Nat), [(97 : Int), 98, 99])]).flatten = abcD from sha_abc]
  refine WL_cons hC.fn (.plain rfl (ox_alloc hC zero_24 rfl rfl rfl)) ?_
  refine WL_cons hC.fn (.plain rfl (ox_store hC (.tmp rfl) (.tmp rfl) rfl shp_24 (by first | rfl | exact flat_agI) (by first | exact cells1 rfl | (rw [cells_ag, length_I]; omega) | rfl | (simp <;> fail) | (simp; omega)) (by first | exact Nat.le_refl _ | decide | (simp <;> fail) | (simp; omega)) (by first | exact put_allI (by first | omega | (simp; omega)) | exact put_all (by rw [length_I]; first | omega | (simp; omega)) | exact put_all rfl) (by first | exact .here | exact .there (.here) rfl | exact .there (.there (.here) rfl) rfl | exact .there (.there (.there (.here) rfl) rfl) rfl | exact .there (.there (.there (.there (.here) rfl) rfl) rfl) rfl | exact .there (.there (.there (.there (.there (.here) rfl) rfl) rfl) rfl) rfl | exact .there (.there (.there (.there (.there (.there (.here) rfl) rfl) rfl) rfl) rfl) rfl | exact .there (.there (.there (.there (.there (.there (.there (.here) rfl) rfl) rfl) rfl) rfl) rfl) rfl | exact .there (.there (.there (.there (.there (.there (.there (.there (.here) rfl) rfl) rfl) rfl) rfl) rfl) rfl) rfl | exact .there (.there (.there (.there (.there (.there (.there (.there (.there (.here) rfl) rfl) rfl) rfl) rfl) rfl) rfl) rfl) rfl) rfl)) ?_
  refine WL_nil ?_
  refine W_seq ?_
  refine W_region ?_
  refine WL_cons hC.fn (.plain rfl (ox_indexA hC (j := 0) (.tmp rfl) .cint idx_24 rfl (by first | omega | (simp; omega)) (by first | exact Nat.mul_one _ | rfl) (by first | exact .p (Nat.zero_add _) | exact .p rfl | exact .rp (by first | omega | (simp; omega))) rfl rfl)) ?_
  refine WL_cons hC.fn (.plain rfl (oc_load hC (.tmp rfl) (by first | exact .p rfl | exact .rp) shp_5 (by first | exact unit_one rfl | exact unit_I (by first | omega | (simp; omega)) | exact unit_c rfl (by decide)) rfl rfl)) ?_
  refine WL_cons hC.fn (.plain rfl (ox_cmp hC rfl (.tmp rfl) .cint (r := true) (by decide) rfl rfl)) ?_
  refine WL_cons hC.fn (.plain rfl (oc_move hC (.tmp rfl) rfl rfl)) ?_
  refine WL_cons hC.fn (.yes rfl rfl (by decide) rfl (ox_indexA hC (j := 1) (.tmp rfl) .cint idx_24 rfl (by first | omega | (simp; omega)) (by first | exact Nat.mul_one _ | rfl) (by first | exact .p (Nat.zero_add _) | exact .p rfl | exact .rp (by first | omega | (simp; omega))) rfl rfl)) ?_
  refine WL_cons hC.fn (.yes rfl rfl (by decide) rfl (oc_load hC (.tmp rfl) (by first | exact .p rfl | exact .rp) shp_5 (by first | exact unit_one rfl | exact unit_I (by first | omega | (simp; omega)) | exact unit_c rfl (by decide)) rfl rfl)) ?_
  refine WL_cons hC.fn (.yes rfl rfl (by decide) rfl (ox_cmp hC rfl (.tmp rfl) .cint (r := true) (by decide) rfl rfl)) ?_
  refine WL_cons hC.fn (.plain rfl (ox_pick hC (.tmp rfl) (.tmp rfl) .cbool (by first | exact pick_t | exact pick_f | rfl) rfl rfl)) ?_
  refine WL_cons hC.fn (.plain rfl (oc_move hC (.tmp rfl) rfl rfl)) ?_
  refine WL_cons hC.fn (.yes rfl rfl (by decide) rfl (ox_indexA hC (j := 2) (.tmp rfl) .cint idx_24 rfl (by first | omega | (simp; omega)) (by first | exact Nat.mul_one _ | rfl) (by first | exact .p (Nat.zero_add _) | exact .p rfl | exact .rp (by first | omega | (simp; omega))) rfl rfl)) ?_
  refine WL_cons hC.fn (.yes rfl rfl (by decide) rfl (oc_load hC (.tmp rfl) (by first | exact .p rfl | exact .rp) shp_5 (by first | exact unit_one rfl | exact unit_I (by first | omega | (simp; omega)) | exact unit_c rfl (by decide)) rfl rfl)) ?_
  refine WL_cons hC.fn (.yes rfl rfl (by decide) rfl (ox_cmp hC rfl (.tmp rfl) .cint (r := true) (by decide) rfl rfl)) ?_
  refine WL_cons hC.fn (.plain rfl (ox_pick hC (.tmp rfl) (.tmp rfl) .cbool (by first | exact pick_t | exact pick_f | rfl) rfl rfl)) ?_
  refine WL_cons hC.fn (.plain rfl (oc_move hC (.tmp rfl) rfl rfl)) ?_
  refine WL_cons hC.fn (.yes rfl rfl (by decide) rfl (ox_indexA hC (j := 3) (.tmp rfl) .cint idx_24 rfl (by first | omega | (simp; omega)) (by first | exact Nat.mul_one _ | rfl) (by first | exact .p (Nat.zero_add _) | exact .p rfl | exact .rp (by first | omega | (simp; omega))) rfl rfl)) ?_
  refine WL_cons hC.fn (.yes rfl rfl (by decide) rfl (oc_load hC (.tmp rfl) (by first | exact .p rfl | exact .rp) shp_5 (by first | exact unit_one rfl | exact unit_I (by first | omega | (simp; omega)) | exact unit_c rfl (by decide)) rfl rfl)) ?_
  refine WL_cons hC.fn (.yes rfl rfl (by decide) rfl (ox_cmp hC rfl (.tmp rfl) .cint (r := true) (by decide) rfl rfl)) ?_
  refine WL_cons hC.fn (.plain rfl (ox_pick hC (.tmp rfl) (.tmp rfl) .cbool (by first | exact pick_t | exact pick_f | rfl) rfl rfl)) ?_
  refine WL_cons hC.fn (.plain rfl (oc_move hC (.tmp rfl) rfl rfl)) ?_
  refine WL_cons hC.fn (.yes rfl rfl (by decide) rfl (ox_indexA hC (j := 31) (.tmp rfl) .cint idx_24 rfl (by first | omega | (simp; omega)) (by first | exact Nat.mul_one _ | rfl) (by first | exact .p (Nat.zero_add _) | exact .p rfl | exact .rp (by first | omega | (simp; omega))) rfl rfl)) ?_
  refine WL_cons hC.fn (.yes rfl rfl (by decide) rfl (oc_load hC (.tmp rfl) (by first | exact .p rfl | exact .rp) shp_5 (by first | exact unit_one rfl | exact unit_I (by first | omega | (simp; omega)) | exact unit_c rfl (by decide)) rfl rfl)) ?_
  refine WL_cons hC.fn (.yes rfl rfl (by decide) rfl (ox_cmp hC rfl (.tmp rfl) .cint (r := true) (by decide) rfl rfl)) ?_
  refine WL_cons hC.fn (.plain rfl (ox_pick hC (.tmp rfl) (.tmp rfl) .cbool (by first | exact pick_t | exact pick_f | rfl) rfl rfl)) ?_
  refine WL_cons hC.fn (.plain rfl (oc_move hC (.tmp rfl) rfl rfl)) ?_
  refine WL_cons hC.fn (.yes rfl rfl (by decide) rfl (oc_call hC .nil (.same (by first | exact inSL_I _ | simp)) (start_c) glob_nil (by first | exact inSL_I _ | simp) (by first | exact .inl rfl | exact .inr (by simp)) rfl rfl)) ?_
  have hl8 : start8.length = 8 := rfl
  refine WL_cons hC.fn (.yes rfl rfl (by decide) rfl (ox_index hC (j := 7) (.tmp rfl) .cint elt_30 rfl (by first | omega | (simp; omega)) (by first | exact Nat.mul_one _ | rfl) (by first | omega | (simp; omega)) (by first | exact unit_one rfl | exact unit_I (by first | omega | (simp; omega)) | exact unit_c rfl (by decide)) rfl rfl)) ?_
  refine WL_cons hC.fn (.yes rfl rfl (by decide) rfl (ox_cmp hC rfl (.tmp rfl) .cint (r := true) (by decide) rfl rfl)) ?_
  refine WL_cons hC.fn (.plain rfl (ox_pick hC (.tmp rfl) (.tmp rfl) .cbool (by first | exact pick_t | exact pick_f | rfl) rfl rfl)) ?_
  refine WL_cons hC.fn (.plain rfl (oc_move hC (.tmp rfl) rfl rfl)) ?_
  refine WL_cons hC.fn (.yes rfl rfl (by decide) rfl (oc_callN hC (.cons .cint .nil) (.cons1 (.free (by first | exact inSL_I _ | simp)) (.same (by first | exact inSL_I _ | simp))) (pad_c 55 (by decide)) glob_nil (by first | exact inSL_I _ | simp) rfl (by first | exact .inl rfl | exact .inr ⟨by simp, novsL_I _⟩ | exact .inr ⟨by simp, by simp⟩) rfl rfl)) ?_
  rw [show 9 + padZ 55 = 9 by decide +kernel]
  refine WL_cons hC.fn (.yes rfl rfl (by decide) rfl (ox_len hC (.tmp rfl) (by first | exact .row rfl | exact .vs | exact .sl rfl | exact .nils) Tryd.underlying22 rfl rfl rfl)) ?_
  refine WL_cons hC.fn (.yes rfl rfl (by decide) rfl (ox_cmp hC rfl (.tmp rfl) .cint (r := true) (by decide) rfl rfl)) ?_
  refine WL_cons hC.fn (.plain rfl (ox_pick hC (.tmp rfl) (.tmp rfl) .cbool (by first | exact pick_t | exact pick_f | rfl) rfl rfl)) ?_
  refine WL_cons hC.fn (.plain rfl (oc_assign hC (.tmp rfl) rfl rfl)) ?_
  refine WL_nil ?_
  refine W_ret ?_
  exact fin0 (.cons (.tmp rfl) .nil) rfl (by first | exact inSL_I _ | simp)
set_option maxRecDepth 20000 in
set_option maxHeartbeats 4000000 in
theorem padneg_c (n : Int) (hn : n < 0) : FnC Tryd.prog 17 [] [.i .i64 n] [] [] (.nils) := by
  refine FnC.intro (N0 := 0) (T := 33) (E := [(0, .i .i64 n)]) Tryd.func17 rfl (by decide) mix rfl rfl rfl (by simp) rfl ⟨(by first | exact inSL_I _ | trivial | simp), trivial⟩ (by simp) (by intro S _ _ h; simp) (fun F n0 X w ρ hC => ?_)
  refine W_seq ?_
  refine W_region ?_
  refine WL_cons hC.fn (.plain rfl (oc_assign hC .cnils rfl rfl)) ?_
  refine WL_nil ?_
  refine W_seq ?_
  refine W_seq ?_
  refine W_region ?_
  refine WL_cons hC.fn (.plain rfl (oc_move hC (.tmp rfl) rfl rfl)) ?_
  refine WL_cons hC.fn (.plain rfl (ox_cmp hC rfl (.tmp rfl) .cint rfl rfl rfl)) ?_
  refine WL_nil ?_
  refine W_cond rfl (by decide) (fun hc => ?_) (fun hc => ?_)
  ·
    replace hc := lss_t hc
    
    refine W_seq ?_
    refine W_region ?_
    refine WL_cons hC.fn (.plain rfl (oc_assign hC .cnils rfl rfl)) ?_
    refine WL_nil ?_
    refine W_ret ?_
    exact fin0 (.cons (.tmp rfl) .nil) rfl trivial
  ·
    replace hc := lss_f hc
    exfalso
    omega
set_option maxRecDepth 20000 in
set_option maxHeartbeats 4000000 in
theorem rpadneg_c (n : Int) (hn : n < 0) : FnC Tryd.prog 18 [] [.i .i64 n] [] [] (.nils) := by
  refine FnC.intro (N0 := 0) (T := 39) (E := [(0, .i .i64 n)]) Tryd.func18 rfl (by decide) mix rfl rfl rfl (by simp) rfl ⟨(by first | exact inSL_I _ | trivial | simp), trivial⟩ (by simp) (by intro S _ _ h; simp) (fun F n0 X w ρ hC => ?_)
  refine W_seq ?_
  refine W_region ?_
  refine WL_cons hC.fn (.plain rfl (oc_assign hC .cnils rfl rfl)) ?_
  refine WL_nil ?_
  refine W_seq ?_
  refine W_seq ?_
  refine W_region ?_
  refine WL_cons hC.fn (.plain rfl (oc_move hC (.tmp rfl) rfl rfl)) ?_
  refine WL_cons hC.fn (.plain rfl (ox_cmp hC rfl (.tmp rfl) .cint rfl rfl rfl)) ?_
  refine WL_nil ?_
  refine W_cond rfl (by decide) (fun hc => ?_) (fun hc => ?_)
  ·
    replace hc := lss_t hc
    
    refine W_seq ?_
    refine W_region ?_
    refine WL_cons hC.fn (.plain rfl (oc_assign hC .cnils rfl rfl)) ?_
    refine WL_nil ?_
    refine W_ret ?_
    exact fin0 (.cons (.tmp rfl) .nil) rfl trivial
  ·
    replace hc := lss_f hc
    exfalso
    omega
set_option maxRecDepth 20000 in
set_option maxHeartbeats 4000000 in
theorem law_DigestOf (n : Nat) (b : List Int) (hn : b.length = n) (hb : B8 b) : FnC Tryd.prog 3 [(1000000, .rp (I .u32 tbl))] [.vs n (I .u8 b)] [] [] (.b true) := by
  refine FnC.intro (N0 := 0) (T := 20) (E := [(0, .vs n (I .u8 b)), (1000000, .rp (I .u32 tbl))]) Tryd.func3 rfl (by decide) mix rfl rfl rfl (by simp) rfl ⟨(by first | exact inSL_I _ | trivial | simp), trivial⟩ (by simp) (by intro S _ _ h; simp) (fun F n0 X w ρ hC => ?_)
  refine W_seq ?_
  refine W_region ?_
  refine WL_cons hC.fn (.plain rfl (oc_assign hC .cbool rfl rfl)) ?_
  refine WL_nil ?_
  refine W_seq ?_
  refine W_seq ?_
  refine W_region ?_
  refine WL_cons hC.fn (.plain rfl (oc_move hC (.tmp rfl) rfl rfl)) ?_
  refine WL_cons hC.fn (.plain rfl (ox_len hC (.tmp rfl) (by first | exact .row rfl | exact .vs | exact .sl rfl | exact .nils) Tryd.underlying22 rfl rfl rfl)) ?_
  refine WL_cons hC.fn (.plain rfl (ox_cmp hC rfl (.tmp rfl) .cint rfl rfl rfl)) ?_
  refine WL_nil ?_
  refine W_cond rfl (by decide) (fun hc => ?_) (fun hc => ?_)
  ·
    replace hc := gtr_t hc
    
    refine W_seq ?_
    refine W_region ?_
    refine WL_cons hC.fn (.plain rfl (oc_call hC .nil (.same (by first | exact inSL_I _ | simp)) (awake03_c) (glob_cons rfl rfl (by first | exact inSL_I _ | simp) glob_nil) (by first | exact inSL_I _ | simp) (by first | exact .inl rfl | exact .inr (by simp)) rfl rfl)) ?_
    refine WL_cons hC.fn (.plain rfl (oc_assign hC (.tmp rfl) rfl rfl)) ?_
    refine WL_nil ?_
    refine W_ret ?_
    exact fin0 (.cons (.tmp rfl) .nil) rfl trivial
  ·
    replace hc := gtr_f hc
    
    refine W_skip ?_
    refine W_seq ?_
    refine W_region ?_
    refine WL_cons hC.fn (.plain rfl (oc_move hC (.tmp rfl) rfl rfl)) ?_
    refine WL_cons hC.fn (.plain rfl (ox_lit hC (.cons (.tmp rfl) .nil) Tryd.underlying42 cells_22 zero_22 rfl (by decide) rfl rfl (by first | rfl | simp) rfl rfl)) ?_
    refine WL_cons hC.fn (.plain rfl (oc_call hC (.cons (.tmp rfl) .nil) (.cons1 (by first | exact .free (by first | exact inSL_I _ | simp) | exact .row rfl rfl (by first | exact inSL_I _ | simp) | exact .nils | exact .sl1 rfl (by first | exact cut_I | rfl) (by first | exact inSL_I _ | simp)) (.same (by first | exact inSL_I _ | simp))) (of_c [(n, b)] 1 rfl (by decide) (by intro p hp; simp only [List.mem_cons, List.not_mem_nil, or_false] at hp; rcases hp with rfl <;> exact ⟨by assumption, by assumption⟩) (by simp; omega)) (glob_cons rfl rfl (by first | exact inSL_I _ | simp) glob_nil) (by first | exact inSL_I _ | simp) (by first | exact .inl rfl | exact .inr (by simp)) rfl rfl)) ?_
    rw [show (List.map (·.2) [(n, b)]).flatten = b by simp]
    have hsl := length_sh b
    refine WL_cons hC.fn (.plain rfl (ox_alloc hC zero_24 rfl rfl rfl)) ?_
    refine WL_cons hC.fn (.plain rfl (ox_store hC (.tmp rfl) (.tmp rfl) rfl shp_24 (by first | rfl | exact flat_agI) (by first | exact cells1 rfl | (rw [cells_ag, length_I]; omega) | rfl | (simp <;> fail) | (simp; omega)) (by first | exact Nat.le_refl _ | decide | (simp <;> fail) | (simp; omega)) (by first | exact put_allI (by first | omega | (simp; omega)) | exact put_all (by rw [length_I]; first | omega | (simp; omega)) | exact put_all rfl) (by first | exact .here | exact .there (.here) rfl | exact .there (.there (.here) rfl) rfl | exact .there (.there (.there (.here) rfl) rfl) rfl | exact .there (.there (.there (.there (.here) rfl) rfl) rfl) rfl | exact .there (.there (.there (.there (.there (.here) rfl) rfl) rfl) rfl) rfl | exact .there (.there (.there (.there (.there (.there (.here) rfl) rfl) rfl) rfl) rfl) rfl | exact .there (.there (.there (.there (.there (.there (.there (.here) rfl) rfl) rfl) rfl) rfl) rfl) rfl | exact .there (.there (.there (.there (.there (.there (.there (.there (.here) rfl) rfl) rfl) rfl) rfl) rfl) rfl) rfl | exact .there (.there (.there (.there (.there (.there (.there (.there (.there (.here) rfl) rfl) rfl) rfl) rfl) rfl) rfl) rfl) rfl) rfl)) ?_
    refine WL_nil ?_
    refine W_seq ?_
    refine W_drawD hC ?_
    refine WD_cons (.plain rfl (ox_cutA hC (.tmp rfl) .no .no idx_24 (by first | omega | (simp; omega)) (by first | omega | (simp; omega)) (by first | exact .p (by first | (simp <;> fail) | rfl) | exact .rp (by first | omega | (simp; omega))) (by first | exact cut_vsI | rfl) rfl rfl)) ?_
    refine WD_cons (.plain rfl (ox_b2s hC (.tmp rfl) (by first | exact .row rfl | exact .vs | exact .sl rfl | exact .nils) (by first | exact take_allI (by first | assumption | rfl | (simp; omega) | omega) | exact take_cutI | exact take_takeI) (by first | assumption | rfl | omega | (simp; omega)) Tryd.underlying22 Tryd.underlying5 Tryd.underlying9 rfl rfl)) ?_
    refine WD_cons (.plain rfl (oc_move hC (.tmp rfl) rfl rfl)) ?_
    refine WD_cons (.plain rfl (oc_callN hC (.cons (.tmp rfl) .nil) (.cons1 (by first | exact .free (by first | exact inSL_I _ | simp) | exact .row rfl rfl (by first | exact inSL_I _ | simp) | exact .nils | exact .sl1 rfl (by first | exact cut_I | rfl) (by first | exact inSL_I _ | simp)) (.same (by first | exact inSL_I _ | simp))) (rof_c _ _ hn (by omega) hb) glob_nil (by first | exact inSL_I _ | simp) rfl (by first | exact .inl rfl | exact .inr ⟨by simp, novsL_I _⟩ | exact .inr ⟨by simp, by simp⟩) rfl rfl)) ?_
    refine WD_cons (.plain rfl (ox_b2s hC (.tmp rfl) (by first | exact .row rfl | exact .vs | exact .sl rfl | exact .nils) (by first | exact take_allI (by first | assumption | rfl | (simp; omega) | omega) | exact take_cutI | exact take_takeI) (by first | assumption | rfl | omega | (simp; omega)) Tryd.underlying22 Tryd.underlying5 Tryd.underlying9 rfl rfl)) ?_
    refine WD_cons (.plain rfl (ox_eqs hC (.inl rfl) (.tmp rfl) (.tmp rfl) (r := true) (by simp) rfl rfl)) ?_
    refine WD_cons (.plain rfl (oc_move hC (.tmp rfl) rfl rfl)) ?_
    refine WD_cons (.yes rfl rfl (by decide) rfl (oc_call hC .nil (.same (by first | exact inSL_I _ | simp)) (awake03_c) (glob_cons rfl rfl (by first | exact inSL_I _ | simp) glob_nil) (by first | exact inSL_I _ | simp) (by first | exact .inl rfl | exact .inr (by simp)) rfl rfl)) ?_
    refine WD_cons (.plain rfl (ox_pick hC (.tmp rfl) (.tmp rfl) .cbool (by first | exact pick_t | exact pick_f | rfl) rfl rfl)) ?_
    refine WD_cons (.plain rfl (oc_assign hC (.tmp rfl) rfl rfl)) ?_
    refine WD_nil (by kernel_rfl) ?_
    refine W_ret ?_
    exact fin0 (.cons (.tmp rfl) .nil) rfl trivial
set_option maxRecDepth 20000 in
set_option maxHeartbeats 4000000 in
theorem law_DigestParts (na nb nc : Nat) (a b c : List Int) (ha : a.length = na) (hb : b.length = nb) (hc : c.length = nc) (ha8 : B8 a) (hb8 : B8 b) (hc8 : B8 c) : FnC Tryd.prog 4 [(1000000, .rp (I .u32 tbl))] [.vs na (I .u8 a), .vs nb (I .u8 b), .vs nc (I .u8 c)] [] [] (.b true) := by
  refine FnC.intro (N0 := 0) (T := 39) (E := [(0, .vs na (I .u8 a)), (1, .vs nb (I .u8 b)), (2, .vs nc (I .u8 c)), (1000000, .rp (I .u32 tbl))]) Tryd.func4 rfl (by decide) mix rfl rfl rfl (by simp) rfl ⟨(by first | exact inSL_I _ | trivial | simp), (by first | exact inSL_I _ | trivial | simp), (by first | exact inSL_I _ | trivial | simp), trivial⟩ (by simp) (by intro S _ _ h; simp) (fun F n0 X w ρ hC => ?_)
  refine W_seq ?_
  refine W_region ?_
  refine WL_cons hC.fn (.plain rfl (oc_assign hC .cbool rfl rfl)) ?_
  refine WL_nil ?_
  refine W_seq ?_
  refine W_seq ?_
  rcases (show 300 < na ∨ (na ≤ 300 ∧ 300 < nb) ∨ (na ≤ 300 ∧ nb ≤ 300 ∧ 300 < nc) ∨ (na ≤ 300 ∧ nb ≤ 300 ∧ nc ≤ 300) by omega) with h | h | h | h
  ·
    refine W_region ?_
    refine WL_cons hC.fn (.plain rfl (oc_move hC (.tmp rfl) rfl rfl)) ?_
    refine WL_cons hC.fn (.plain rfl (ox_len hC (.tmp rfl) (by first | exact .row rfl | exact .vs | exact .sl rfl | exact .nils) Tryd.underlying22 rfl rfl rfl)) ?_
    refine WL_cons hC.fn (.plain rfl (ox_cmp hC rfl (.tmp rfl) .cint (r := true) (by simp only [cmpI]; exact decide_eq_true (by omega)) rfl rfl)) ?_
    refine WL_cons hC.fn (.plain rfl (oc_move hC (.tmp rfl) rfl rfl)) ?_
    refine WL_cons hC.fn (.no (s1 := ⟨_, (11, .tu []) :: _, _⟩) rfl rfl (by decide) rfl (by decide) (fun t ht => by cases ht; exact ⟨blt_lt rfl, blt_lt rfl⟩) (fun t => setE_cons _ _ _ _) rfl rfl) ?_
    refine WL_cons hC.fn (.no (s1 := ⟨_, (12, .tu []) :: _, _⟩) rfl rfl (by decide) rfl (by decide) (fun t ht => by cases ht; exact ⟨blt_lt rfl, blt_lt rfl⟩) (fun t => setE_cons _ _ _ _) rfl rfl) ?_
    refine WL_cons hC.fn (.no (s1 := ⟨_, (13, .tu []) :: _, _⟩) rfl rfl (by decide) rfl (by decide) (fun t ht => by cases ht; exact ⟨blt_lt rfl, blt_lt rfl⟩) (fun t => setE_cons _ _ _ _) rfl rfl) ?_
    refine WL_cons hC.fn (.plain rfl (ox_pick hC (.tmp rfl) .cbool (.tmp rfl) (by first | exact pick_t | exact pick_f | rfl) rfl rfl)) ?_
    refine WL_cons hC.fn (.plain rfl (oc_move hC (.tmp rfl) rfl rfl)) ?_
    refine WL_cons hC.fn (.no (s1 := ⟨_, (16, .tu []) :: _, _⟩) rfl rfl (by decide) rfl (by decide) (fun t ht => by cases ht; exact ⟨blt_lt rfl, blt_lt rfl⟩) (fun t => setE_cons _ _ _ _) rfl rfl) ?_
    refine WL_cons hC.fn (.no (s1 := ⟨_, (17, .tu []) :: _, _⟩) rfl rfl (by decide) rfl (by decide) (fun t ht => by cases ht; exact ⟨blt_lt rfl, blt_lt rfl⟩) (fun t => setE_cons _ _ _ _) rfl rfl) ?_
    refine WL_cons hC.fn (.no (s1 := ⟨_, (18, .tu []) :: _, _⟩) rfl rfl (by decide) rfl (by decide) (fun t ht => by cases ht; exact ⟨blt_lt rfl, blt_lt rfl⟩) (fun t => setE_cons _ _ _ _) rfl rfl) ?_
    refine WL_cons hC.fn (.plain rfl (ox_pick hC (.tmp rfl) .cbool (.tmp rfl) (by first | exact pick_t | exact pick_f | rfl) rfl rfl)) ?_
    refine WL_nil ?_
    refine W_cond rfl (by decide) (fun _ => ?_) (fun hc => by cases hc)
    refine W_seq ?_
    refine W_region ?_
    refine WL_cons hC.fn (.plain rfl (oc_call hC .nil (.same (by first | exact inSL_I _ | simp)) (awake03_c) (glob_cons rfl rfl (by first | exact inSL_I _ | simp) glob_nil) (by first | exact inSL_I _ | simp) (by first | exact .inl rfl | exact .inr (by simp)) rfl rfl)) ?_
    refine WL_cons hC.fn (.plain rfl (oc_assign hC (.tmp rfl) rfl rfl)) ?_
    refine WL_nil ?_
    refine W_ret ?_
    exact fin0 (.cons (.tmp rfl) .nil) rfl trivial
  ·
    refine W_region ?_
    refine WL_cons hC.fn (.plain rfl (oc_move hC (.tmp rfl) rfl rfl)) ?_
    refine WL_cons hC.fn (.plain rfl (ox_len hC (.tmp rfl) (by first | exact .row rfl | exact .vs | exact .sl rfl | exact .nils) Tryd.underlying22 rfl rfl rfl)) ?_
    refine WL_cons hC.fn (.plain rfl (ox_cmp hC rfl (.tmp rfl) .cint (r := false) (by simp only [cmpI]; exact decide_eq_false (by omega)) rfl rfl)) ?_
    refine WL_cons hC.fn (.plain rfl (oc_move hC (.tmp rfl) rfl rfl)) ?_
    refine WL_cons hC.fn (.yes rfl rfl (by decide) rfl (oc_move hC (.tmp rfl) rfl rfl)) ?_
    refine WL_cons hC.fn (.yes rfl rfl (by decide) rfl (ox_len hC (.tmp rfl) (by first | exact .row rfl | exact .vs | exact .sl rfl | exact .nils) Tryd.underlying22 rfl rfl rfl)) ?_
    refine WL_cons hC.fn (.yes rfl rfl (by decide) rfl (ox_cmp hC rfl (.tmp rfl) .cint (r := true) (by simp only [cmpI]; exact decide_eq_true (by omega)) rfl rfl)) ?_
    refine WL_cons hC.fn (.plain rfl (ox_pick hC (.tmp rfl) .cbool (.tmp rfl) (by first | exact pick_t | exact pick_f | rfl) rfl rfl)) ?_
    refine WL_cons hC.fn (.plain rfl (oc_move hC (.tmp rfl) rfl rfl)) ?_
    refine WL_cons hC.fn (.no (s1 := ⟨_, (16, .tu []) :: _, _⟩) rfl rfl (by decide) rfl (by decide) (fun t ht => by cases ht; exact ⟨blt_lt rfl, blt_lt rfl⟩) (fun t => setE_cons _ _ _ _) rfl rfl) ?_
    refine WL_cons hC.fn (.no (s1 := ⟨_, (17, .tu []) :: _, _⟩) rfl rfl (by decide) rfl (by decide) (fun t ht => by cases ht; exact ⟨blt_lt rfl, blt_lt rfl⟩) (fun t => setE_cons _ _ _ _) rfl rfl) ?_
    refine WL_cons hC.fn (.no (s1 := ⟨_, (18, .tu []) :: _, _⟩) rfl rfl (by decide) rfl (by decide) (fun t ht => by cases ht; exact ⟨blt_lt rfl, blt_lt rfl⟩) (fun t => setE_cons _ _ _ _) rfl rfl) ?_
    refine WL_cons hC.fn (.plain rfl (ox_pick hC (.tmp rfl) .cbool (.tmp rfl) (by first | exact pick_t | exact pick_f | rfl) rfl rfl)) ?_
    refine WL_nil ?_
    refine W_cond rfl (by decide) (fun _ => ?_) (fun hc => by cases hc)
    refine W_seq ?_
    refine W_region ?_
    refine WL_cons hC.fn (.plain rfl (oc_call hC .nil (.same (by first | exact inSL_I _ | simp)) (awake03_c) (glob_cons rfl rfl (by first | exact inSL_I _ | simp) glob_nil) (by first | exact inSL_I _ | simp) (by first | exact .inl rfl | exact .inr (by simp)) rfl rfl)) ?_
    refine WL_cons hC.fn (.plain rfl (oc_assign hC (.tmp rfl) rfl rfl)) ?_
    refine WL_nil ?_
    refine W_ret ?_
    exact fin0 (.cons (.tmp rfl) .nil) rfl trivial
  ·
    refine W_region ?_
    refine WL_cons hC.fn (.plain rfl (oc_move hC (.tmp rfl) rfl rfl)) ?_
    refine WL_cons hC.fn (.plain rfl (ox_len hC (.tmp rfl) (by first | exact .row rfl | exact .vs | exact .sl rfl | exact .nils) Tryd.underlying22 rfl rfl rfl)) ?_
    refine WL_cons hC.fn (.plain rfl (ox_cmp hC rfl (.tmp rfl) .cint (r := false) (by simp only [cmpI]; exact decide_eq_false (by omega)) rfl rfl)) ?_
    refine WL_cons hC.fn (.plain rfl (oc_move hC (.tmp rfl) rfl rfl)) ?_
    refine WL_cons hC.fn (.yes rfl rfl (by decide) rfl (oc_move hC (.tmp rfl) rfl rfl)) ?_
    refine WL_cons hC.fn (.yes rfl rfl (by decide) rfl (ox_len hC (.tmp rfl) (by first | exact .row rfl | exact .vs | exact .sl rfl | exact .nils) Tryd.underlying22 rfl rfl rfl)) ?_
    refine WL_cons hC.fn (.yes rfl rfl (by decide) rfl (ox_cmp hC rfl (.tmp rfl) .cint (r := false) (by simp only [cmpI]; exact decide_eq_false (by omega)) rfl rfl)) ?_
    refine WL_cons hC.fn (.plain rfl (ox_pick hC (.tmp rfl) .cbool (.tmp rfl) (by first | exact pick_t | exact pick_f | rfl) rfl rfl)) ?_
    refine WL_cons hC.fn (.plain rfl (oc_move hC (.tmp rfl) rfl rfl)) ?_
    refine WL_cons hC.fn (.yes rfl rfl (by decide) rfl (oc_move hC (.tmp rfl) rfl rfl)) ?_
    refine WL_cons hC.fn (.yes rfl rfl (by decide) rfl (ox_len hC (.tmp rfl) (by first | exact .row rfl | exact .vs | exact .sl rfl | exact .nils) Tryd.underlying22 rfl rfl rfl)) ?_
    refine WL_cons hC.fn (.yes rfl rfl (by decide) rfl (ox_cmp hC rfl (.tmp rfl) .cint (r := true) (by simp only [cmpI]; exact decide_eq_true (by omega)) rfl rfl)) ?_
    refine WL_cons hC.fn (.plain rfl (ox_pick hC (.tmp rfl) .cbool (.tmp rfl) (by first | exact pick_t | exact pick_f | rfl) rfl rfl)) ?_
    refine WL_nil ?_
    refine W_cond rfl (by decide) (fun _ => ?_) (fun hc => by cases hc)
    refine W_seq ?_
    refine W_region ?_
    refine WL_cons hC.fn (.plain rfl (oc_call hC .nil (.same (by first | exact inSL_I _ | simp)) (awake03_c) (glob_cons rfl rfl (by first | exact inSL_I _ | simp) glob_nil) (by first | exact inSL_I _ | simp) (by first | exact .inl rfl | exact .inr (by simp)) rfl rfl)) ?_
    refine WL_cons hC.fn (.plain rfl (oc_assign hC (.tmp rfl) rfl rfl)) ?_
    refine WL_nil ?_
    refine W_ret ?_
    exact fin0 (.cons (.tmp rfl) .nil) rfl trivial
  ·
    refine W_region ?_
    refine WL_cons hC.fn (.plain rfl (oc_move hC (.tmp rfl) rfl rfl)) ?_
    refine WL_cons hC.fn (.plain rfl (ox_len hC (.tmp rfl) (by first | exact .row rfl | exact .vs | exact .sl rfl | exact .nils) Tryd.underlying22 rfl rfl rfl)) ?_
    refine WL_cons hC.fn (.plain rfl (ox_cmp hC rfl (.tmp rfl) .cint (r := false) (by simp only [cmpI]; exact decide_eq_false (by omega)) rfl rfl)) ?_
    refine WL_cons hC.fn (.plain rfl (oc_move hC (.tmp rfl) rfl rfl)) ?_
    refine WL_cons hC.fn (.yes rfl rfl (by decide) rfl (oc_move hC (.tmp rfl) rfl rfl)) ?_
    refine WL_cons hC.fn (.yes rfl rfl (by decide) rfl (ox_len hC (.tmp rfl) (by first | exact .row rfl | exact .vs | exact .sl rfl | exact .nils) Tryd.underlying22 rfl rfl rfl)) ?_
    refine WL_cons hC.fn (.yes rfl rfl (by decide) rfl (ox_cmp hC rfl (.tmp rfl) .cint (r := false) (by simp only [cmpI]; exact decide_eq_false (by omega)) rfl rfl)) ?_
    refine WL_cons hC.fn (.plain rfl (ox_pick hC (.tmp rfl) .cbool (.tmp rfl) (by first | exact pick_t | exact pick_f | rfl) rfl rfl)) ?_
    refine WL_cons hC.fn (.plain rfl (oc_move hC (.tmp rfl) rfl rfl)) ?_
    refine WL_cons hC.fn (.yes rfl rfl (by decide) rfl (oc_move hC (.tmp rfl) rfl rfl)) ?_
    refine WL_cons hC.fn (.yes rfl rfl (by decide) rfl (ox_len hC (.tmp rfl) (by first | exact .row rfl | exact .vs | exact .sl rfl | exact .nils) Tryd.underlying22 rfl rfl rfl)) ?_
    refine WL_cons hC.fn (.yes rfl rfl (by decide) rfl (ox_cmp hC rfl (.tmp rfl) .cint (r := false) (by simp only [cmpI]; exact decide_eq_false (by omega)) rfl rfl)) ?_
    refine WL_cons hC.fn (.plain rfl (ox_pick hC (.tmp rfl) .cbool (.tmp rfl) (by first | exact pick_t | exact pick_f | rfl) rfl rfl)) ?_
    refine WL_nil ?_
    refine W_cond rfl (by decide) (fun hc => by cases hc) (fun _ => ?_)
    refine W_skip ?_
    refine W_seq ?_
    refine W_region ?_
    refine WL_cons hC.fn (.plain rfl (oc_move hC (.tmp rfl) rfl rfl)) ?_
    refine WL_cons hC.fn (.plain rfl (oc_move hC (.tmp rfl) rfl rfl)) ?_
    refine WL_cons hC.fn (.plain rfl (oc_move hC (.tmp rfl) rfl rfl)) ?_
    refine WL_cons hC.fn (.plain rfl (ox_lit hC (.cons (.tmp rfl) (.cons (.tmp rfl) (.cons (.tmp rfl) .nil))) Tryd.underlying42 cells_22 zero_22 rfl (by decide) rfl rfl (by first | rfl | simp) rfl rfl)) ?_
    refine WL_cons hC.fn (.plain rfl (oc_call hC (.cons (.tmp rfl) .nil) (.cons1 (by first | exact .free (by first | exact inSL_I _ | simp) | exact .row rfl rfl (by first | exact inSL_I _ | simp) | exact .nils | exact .sl1 rfl (by first | exact cut_I | rfl) (by first | exact inSL_I _ | simp)) (.same (by first | exact inSL_I _ | simp))) (of_c [(na, a), (nb, b), (nc, c)] 3 rfl (by decide) (by intro p hp; simp only [List.mem_cons, List.not_mem_nil, or_false] at hp; rcases hp with rfl | rfl | rfl <;> exact ⟨by assumption, by assumption⟩) (by simp; omega)) (glob_cons rfl rfl (by first | exact inSL_I _ | simp) glob_nil) (by first | exact inSL_I _ | simp) (by first | exact .inl rfl | exact .inr (by simp)) rfl rfl)) ?_
    rw [show (List.map (·.2) [(na, a), (nb, b), (nc, c)]).flatten = a ++ b ++ c by simp]
    have hsl := length_sh (a ++ b ++ c)
    refine WL_cons hC.fn (.plain rfl (ox_litRI (k := .u8) (ws := []) hC .nil Tryd.underlying22 cells_5 zero_5 rfl (by decide) rfl rfl (by first | rfl | simp) rfl rfl rfl)) ?_
    refine WL_cons hC.fn (.plain rfl (oc_move hC (.tmp rfl) rfl rfl)) ?_
    refine WL_cons hC.fn (.plain rfl (ox_append (n' := na) (cs' := I .u8 a) hC (.tmp rfl) (.tmp rfl) (by first | exact .row rfl rfl (by first | exact .here rfl | exact .there (.here rfl) rfl | exact .there (.there (.here rfl) rfl) rfl | exact .there (.there (.there (.here rfl) rfl) rfl) rfl | exact .there (.there (.there (.there (.here rfl) rfl) rfl) rfl) rfl | exact .there (.there (.there (.there (.there (.here rfl) rfl) rfl) rfl) rfl) rfl | exact .there (.there (.there (.there (.there (.there (.here rfl) rfl) rfl) rfl) rfl) rfl) rfl | exact .there (.there (.there (.there (.there (.there (.there (.here rfl) rfl) rfl) rfl) rfl) rfl) rfl) rfl | exact .there (.there (.there (.there (.there (.there (.there (.there (.here rfl) rfl) rfl) rfl) rfl) rfl) rfl) rfl) rfl | exact .there (.there (.there (.there (.there (.there (.there (.there (.there (.here rfl) rfl) rfl) rfl) rfl) rfl) rfl) rfl) rfl) rfl) | exact .nils) (by first | exact .row rfl | exact .vs | exact .sl rfl | exact .nils) (by first | exact hro_nil | exact hro_one rfl) Tryd.underlying22 cells_5 bytes_5 zero_5 rfl (by decide) (by rw [length_I]; omega) (by first | rfl | exact one_takeI) (Nat.zero_add _) ((app_I (us := []) ha).trans rfl) (by simp only [maxLen]; omega) (by omega) rfl rfl)) ?_
    refine WL_cons hC.fn (.plain rfl (oc_move hC (.tmp rfl) rfl rfl)) ?_
    refine WL_cons hC.fn (.plain rfl (ox_append hC (.tmp rfl) (.tmp rfl) (by first | exact .row rfl rfl (by first | exact .here rfl | exact .there (.here rfl) rfl | exact .there (.there (.here rfl) rfl) rfl | exact .there (.there (.there (.here rfl) rfl) rfl) rfl | exact .there (.there (.there (.there (.here rfl) rfl) rfl) rfl) rfl | exact .there (.there (.there (.there (.there (.here rfl) rfl) rfl) rfl) rfl) rfl | exact .there (.there (.there (.there (.there (.there (.here rfl) rfl) rfl) rfl) rfl) rfl) rfl | exact .there (.there (.there (.there (.there (.there (.there (.here rfl) rfl) rfl) rfl) rfl) rfl) rfl) rfl | exact .there (.there (.there (.there (.there (.there (.there (.there (.here rfl) rfl) rfl) rfl) rfl) rfl) rfl) rfl) rfl | exact .there (.there (.there (.there (.there (.there (.there (.there (.there (.here rfl) rfl) rfl) rfl) rfl) rfl) rfl) rfl) rfl) rfl) | exact .nils) (by first | exact .row rfl | exact .vs | exact .sl rfl | exact .nils) (by first | exact hro_nil | exact hro_one rfl) Tryd.underlying22 cells_5 bytes_5 zero_5 rfl (by decide) (by rw [length_I]; omega) (by first | rfl | exact one_takeI) (by first | rfl | (simp <;> fail) | (simp; omega)) (app_I hb) (by simp only [maxLen]; omega) (by omega) rfl rfl)) ?_
    refine WL_cons hC.fn (.plain rfl (oc_move hC (.tmp rfl) rfl rfl)) ?_
    refine WL_cons hC.fn (.plain rfl (ox_append hC (.tmp rfl) (.tmp rfl) (by first | exact .row rfl rfl (by first | exact .here rfl | exact .there (.here rfl) rfl | exact .there (.there (.here rfl) rfl) rfl | exact .there (.there (.there (.here rfl) rfl) rfl) rfl | exact .there (.there (.there (.there (.here rfl) rfl) rfl) rfl) rfl | exact .there (.there (.there (.there (.there (.here rfl) rfl) rfl) rfl) rfl) rfl | exact .there (.there (.there (.there (.there (.there (.here rfl) rfl) rfl) rfl) rfl) rfl) rfl | exact .there (.there (.there (.there (.there (.there (.there (.here rfl) rfl) rfl) rfl) rfl) rfl) rfl) rfl | exact .there (.there (.there (.there (.there (.there (.there (.there (.here rfl) rfl) rfl) rfl) rfl) rfl) rfl) rfl) rfl | exact .there (.there (.there (.there (.there (.there (.there (.there (.there (.here rfl) rfl) rfl) rfl) rfl) rfl) rfl) rfl) rfl) rfl) | exact .nils) (by first | exact .row rfl | exact .vs | exact .sl rfl | exact .nils) (by first | exact hro_nil | exact hro_one rfl) Tryd.underlying22 cells_5 bytes_5 zero_5 rfl (by decide) (by rw [length_I]; omega) (by first | rfl | exact one_takeI) (by first | rfl | (simp <;> fail) | (simp; omega)) (app_I hc) (by simp only [maxLen]; omega) (by omega) rfl rfl)) ?_
    refine WL_cons hC.fn (.plain rfl (ox_lit hC (.cons (.tmp rfl) .nil) Tryd.underlying42 cells_22 zero_22 rfl (by decide) rfl rfl (by first | rfl | simp) rfl rfl)) ?_
    refine WL_cons hC.fn (.plain rfl (oc_call hC (.cons (.tmp rfl) .nil) (.vs (.row rfl (.same (inSL_I _)) (.same trivial)) (.same trivial)) (of_c [(na + nb + nc, a ++ b ++ c)] 1 rfl (by decide) (by intro p hp; simp only [List.mem_cons, List.not_mem_nil, or_false] at hp; subst hp; exact ⟨by simp; omega, B8_append (B8_append ha8 hb8) hc8⟩) (by simp; omega)) (glob_cons rfl rfl (by first | exact inSL_I _ | simp) glob_nil) (by first | exact inSL_I _ | simp) (by first | exact .inl rfl | exact .inr (by simp)) rfl rfl)) ?_
    rw [show (List.map (·.2) [(na + nb + nc, a ++ b ++ c)]).flatten = a ++ b ++ c by simp]
    refine WL_cons hC.fn (.plain rfl (ox_eqI (r := true) hC (.inl rfl) (.tmp rfl) (.tmp rfl) sh_24 kt_24 sg_24 eg_24 hsl hsl (wf_u8 (B8_sha _ _)) (wf_u8 (B8_sha _ _)) (by simp) rfl rfl)) ?_
    refine WL_cons hC.fn (.plain rfl (oc_move hC (.tmp rfl) rfl rfl)) ?_
    refine WL_cons hC.fn (.yes rfl rfl (by decide) rfl (oc_call hC .nil (.same (by first | exact inSL_I _ | simp)) (awake03_c) (glob_cons rfl rfl (by first | exact inSL_I _ | simp) glob_nil) (by first | exact inSL_I _ | simp) (by first | exact .inl rfl | exact .inr (by simp)) rfl rfl)) ?_
    refine WL_cons hC.fn (.plain rfl (ox_pick hC (.tmp rfl) (.tmp rfl) .cbool (by first | exact pick_t | exact pick_f | rfl) rfl rfl)) ?_
    refine WL_cons hC.fn (.plain rfl (oc_assign hC (.tmp rfl) rfl rfl)) ?_
    refine WL_nil ?_
    refine W_ret ?_
    exact fin0 (.cons (.tmp rfl) .nil) rfl trivial
set_option maxRecDepth 20000 in
set_option maxHeartbeats 4000000 in
theorem law_DigestBlock (s b : List Int) (hs8 : s.length = 8) (hb64 : b.length = 64) (hs : W32 s) (hb : B8 b) : FnC Tryd.prog 5 [(1000000, .rp (I .u32 tbl))] [.ag (I .u32 s), .ag (I .u8 b)] [] [] (.b true) := by
  refine FnC.intro (N0 := 0) (T := 54) (E := [(0, .ag (I .u32 s)), (1, .ag (I .u8 b)), (1000000, .rp (I .u32 tbl))]) Tryd.func5 rfl (by decide) mix rfl rfl rfl (by simp) rfl ⟨(by first | exact inSL_I _ | trivial | simp), (by first | exact inSL_I _ | trivial | simp), trivial⟩ (by simp) (by intro S _ _ h; simp) (fun F n0 X w ρ hC => ?_)
  refine W_seq ?_
  refine W_region ?_
  refine WL_cons hC.fn (.plain rfl (ox_box hC (.tmp rfl) (by first | rfl | exact flat_agI) (by first | exact cells_ag | rfl) rfl rfl)) ?_
  refine WL_cons hC.fn (.plain rfl (ox_box hC (.tmp rfl) (by first | rfl | exact flat_agI) (by first | exact cells_ag | rfl) rfl rfl)) ?_
  refine WL_cons hC.fn (.plain rfl (oc_assign hC .cbool rfl rfl)) ?_
  refine WL_nil ?_
  refine W_seq ?_
  refine W_region ?_
  refine WL_cons hC.fn (.plain rfl (oc_assign hC .cnils rfl rfl)) ?_
  refine WL_nil ?_
  refine W_seq ?_
  refine W_seq ?_
  refine W_region ?_
  refine WL_cons hC.fn (.plain rfl (oc_load hC (.tmp rfl) (by first | exact .p rfl | exact .rp) shp_30 (by first | exact unit_blkI (by first | omega | (simp <;> fail) | (simp; omega)) | exact unit_rowI (by first | omega | (simp; omega)) | exact unit_all (by first | omega | (simp <;> fail) | (simp; omega)) | exact unit_takeI0 (by first | omega | (simp; omega)) | exact unit_takeI (by first | omega | (simp; omega)) | exact unit_agg rfl) rfl rfl)) ?_
  refine WL_cons hC.fn (.plain rfl (oc_move hC .cint rfl rfl)) ?_
  refine WL_nil ?_
  refine W_blk ?_
  refine W_weak (weak_nil (t := 5) (e := 3) (sz := 1) rfl) ?_
  refine W_loopW (fun (ζ : Nat) => ⟨3, [(2, .p 0 0), (3, .p 1 0), (5, .row 2), (12, .ag (I .u32 s)), (13, .i .i64 ζ), (1000000, .rp (I .u32 tbl))], [(0, .blk 30 (I .u32 s)), (1, .blk 31 (I .u8 b)), (2, .row 3 1 ζ (I .i64 (s.take ζ)))]⟩) (fun ζ => ζ ≤ 8) (fun ζ => 8 - ζ) (0) (by simp) (weak (fun k => k) (.cons rfl (by first | rfl | simp) (by show _ < _; decide) (.cons rfl (by first | rfl | simp) (by show _ < _; decide) (.cons rfl (by first | rfl | simp) (by show _ < _; decide) (.cons rfl (by first | exact ren_agI | exact ren_vsI | exact ren_free _ _ (by first | exact inSL_I _ | simp)) (by first | exact inSL_I _ | simp) (.cons rfl rfl trivial (.cons rfl (by first | exact ren_agI | exact ren_vsI | exact ren_free _ _ (by first | exact inSL_I _ | simp)) (by first | exact inSL_I _ | simp) .nil)))))) (.cons rfl (by first | exact ren_blkI | exact ren_rowI | rfl | exact Blk.ren_free (by simp) _) rfl (by first | exact inSL_I _ | simp) (.cons rfl (by first | exact ren_blkI | exact ren_rowI | rfl | exact Blk.ren_free (by simp) _) rfl (by first | exact inSL_I _ | simp) (.cons rfl (renRow rfl rfl) rfl (by first | exact inSL_I _ | simp) .nil))) rfl rfl rfl) ?_
  intro i hR
  replace hR : i ≤ 8 := hR
  first | show W _ _ _ ⟨3, [(2, .p 0 0), (3, .p 1 0), (5, .row 2), (12, .ag (I .u32 s)), (13, .i .i64 i), (1000000, .rp (I .u32 tbl))], [(0, .blk 30 (I .u32 s)), (1, .blk 31 (I .u8 b)), (2, .row 3 1 i (I .i64 (s.take i)))]⟩ | skip
  have hsi := hs.get i
  refine W_seq ?_
  refine W_region ?_
  refine WL_cons hC.fn (.plain rfl (ox_cmp hC rfl (.tmp rfl) .cint rfl rfl rfl)) ?_
  refine WL_nil ?_
  refine W_seq ?_
  refine W_cond rfl (by decide) (fun hc => ?_) (fun hc => ?_)
  ·
    replace hc := lss_t hc
    refine W_skip ?_
    refine W_seq ?_
    refine W_blk ?_
    refine W_seq ?_
    refine W_region ?_
    refine WL_cons hC.fn (.plain rfl (ox_index hC  (.tmp rfl) (.tmp rfl) elt_30 (by first | rfl | exact toNat_up (by omega)) (by first | omega | (simp; omega)) (by first | exact Nat.mul_one _ | rfl) (by first | omega | (simp; omega)) (by exact (unit_I (by first | omega | (simp; omega)))) rfl rfl)) ?_
    refine WL_cons hC.fn (.plain rfl (oc_assign hC (.tmp rfl) rfl rfl)) ?_
    refine WL_nil ?_
    refine W_region ?_
    refine WL_cons hC.fn (.plain rfl (oc_move hC (.tmp rfl) rfl rfl)) ?_
    refine WL_cons hC.fn (.plain rfl (oc_move hC (.tmp rfl) rfl rfl)) ?_
    refine WL_cons hC.fn (.plain rfl (oc_conv hC (.tmp rfl) rfl Tryd.underlying3 (by first | exact i64_conv (by omega) | rfl) rfl rfl)) ?_
    refine WL_cons hC.fn (.plain rfl (ox_lit hC (.cons (.tmp rfl) .nil) Tryd.underlying32 cells_3 zero_3 rfl (by decide) rfl rfl (by first | rfl | simp) rfl rfl)) ?_
    refine WL_cons hC.fn (.plain rfl (ox_append hC (.tmp rfl) (.tmp rfl) (by first | exact .row rfl rfl (by first | exact .here rfl | exact .there (.here rfl) rfl | exact .there (.there (.here rfl) rfl) rfl | exact .there (.there (.there (.here rfl) rfl) rfl) rfl | exact .there (.there (.there (.there (.here rfl) rfl) rfl) rfl) rfl | exact .there (.there (.there (.there (.there (.here rfl) rfl) rfl) rfl) rfl) rfl | exact .there (.there (.there (.there (.there (.there (.here rfl) rfl) rfl) rfl) rfl) rfl) rfl | exact .there (.there (.there (.there (.there (.there (.there (.here rfl) rfl) rfl) rfl) rfl) rfl) rfl) rfl | exact .there (.there (.there (.there (.there (.there (.there (.there (.here rfl) rfl) rfl) rfl) rfl) rfl) rfl) rfl) rfl | exact .there (.there (.there (.there (.there (.there (.there (.there (.there (.here rfl) rfl) rfl) rfl) rfl) rfl) rfl) rfl) rfl) rfl) | exact .nils) (by first | exact .row rfl | exact .vs | exact .sl rfl | exact .nils) (by first | exact hro_nil | exact hro_one rfl) Tryd.underlying32 cells_3 bytes_3 zero_3 rfl (by decide) (by first | (simp <;> fail) | (simp; omega)) (by first | rfl | exact one_takeI) (by first | rfl | (simp <;> fail) | (simp; omega)) app_1 (by simp only [maxLen]; omega) (by omega) rfl rfl)) ?_
    refine WL_cons hC.fn (.plain rfl (oc_assign hC (.tmp rfl) rfl rfl)) ?_
    refine WL_nil ?_
    refine W_region ?_
    refine WL_cons hC.fn (.plain rfl (oc_bin hC rfl (.tmp rfl) .cint (by first | exact i64_add (by omega) | rfl) rfl rfl)) ?_
    refine WL_cons hC.fn (.plain rfl (oc_move hC (.tmp rfl) rfl rfl)) ?_
    refine WL_nil ?_
    exact ⟨(i + 1), (by omega), (weak (fun k => bif Nat.beq k 2 then 3 else k) (.cons rfl (by first | rfl | simp) (by show _ < _; decide) (.cons rfl (by first | rfl | simp) (by show _ < _; decide) (.cons rfl (by first | rfl | simp) (by show _ < _; decide) (.cons rfl (by first | exact ren_agI | exact ren_vsI | exact ren_free _ _ (by first | exact inSL_I _ | simp)) (by first | exact inSL_I _ | simp) (.cons rfl (by first | rfl | exact congrArg (AV.i _) (by omega) | exact congrArg (AV.i _) (by simp; omega)) trivial (.cons rfl (by first | exact ren_agI | exact ren_vsI | exact ren_free _ _ (by first | exact inSL_I _ | simp)) (by first | exact inSL_I _ | simp) .nil)))))) (.cons rfl (by first | exact ren_blkI | exact ren_rowI | rfl | exact Blk.ren_free (by simp) _) rfl (by first | exact inSL_I _ | simp) (.cons rfl (by first | exact ren_blkI | exact ren_rowI | rfl | exact Blk.ren_free (by simp) _) rfl (by first | exact inSL_I _ | simp) (.cons rfl (renRow rfl (take_succ_get (by omega))) rfl (by first | exact inSL_I _ | simp) .nil))) rfl rfl rfl), (by omega)⟩
  ·
    replace hc := lss_f hc
    refine W_exit ?_
    refine W_seq ?_
    refine W_drawD hC ?_
    obtain rfl : i = 8 := by omega
    rw [List.take_of_length_le (show s.length ≤ 8 by omega)]
    have hcut : (b.drop 0).take 64 = b := by rw [List.drop_zero, List.take_of_length_le (by omega)]
    have hlb := length_block tbl s b
    have hwb := W32_block tbl s b
    refine WD_cons (.plain rfl (oc_move hC (.tmp rfl) rfl rfl)) ?_
    refine WD_cons (.plain rfl (ox_cutA hC (.tmp rfl) .no .no idx_31 (by first | omega | (simp; omega)) (by first | omega | (simp; omega)) (by first | exact .p (by first | (simp <;> fail) | rfl) | exact .rp (by first | omega | (simp; omega))) (by first | exact cut_vsI | rfl) rfl rfl)) ?_
    refine WD_cons (.plain rfl (oc_callN hC .nil (.same (by first | exact inSL_I _ | simp)) (rtable_c) glob_nil (by first | exact inSL_I _ | simp) rfl (by first | exact .inl rfl | exact .inr ⟨by simp, novsL_I _⟩ | exact .inr ⟨by simp, by simp⟩) rfl rfl)) ?_
    refine WD_cons (.plain rfl (oc_callN hC (.cons (.tmp rfl) (.cons (.tmp rfl) (.cons (.tmp rfl) .nil))) (.cons1 (by first | exact .free (by first | exact inSL_I _ | simp) | exact .row rfl rfl (by first | exact inSL_I _ | simp) | exact .nils | exact .sl1 rfl (by first | exact cut_I | rfl) (by first | exact inSL_I _ | simp)) (.cons1 (by first | exact .free (by first | exact inSL_I _ | simp) | exact .row rfl rfl (by first | exact inSL_I _ | simp) | exact .nils | exact .sl1 rfl (by first | exact cut_I | rfl) (by first | exact inSL_I _ | simp)) (.cons1 (by first | exact .free (by first | exact inSL_I _ | simp) | exact .row rfl rfl (by first | exact inSL_I _ | simp) | exact .nils | exact .sl1 rfl (by first | exact cut_I | rfl) (by first | exact inSL_I _ | simp)) (.same (by first | exact inSL_I _ | simp))))) (rblock_c _ _ _ hs8 (by rw [hcut]; exact hb64) rfl hs (by rw [hcut]; exact hb) W32_tbl) glob_nil (by first | exact inSL_I _ | simp) rfl (by first | exact .inl rfl | exact .inr ⟨by simp, novsL_I _⟩ | exact .inr ⟨by simp, by simp⟩) rfl rfl)) ?_
    rw [hcut]
    refine WD_cons (.plain rfl (oc_callN hC .nil (.same (by first | exact inSL_I _ | simp)) (rstart_c) glob_nil (by first | exact inSL_I _ | simp) rfl (by first | exact .inl rfl | exact .inr ⟨by simp, novsL_I _⟩ | exact .inr ⟨by simp, by simp⟩) rfl rfl)) ?_
    refine WD_cons (.plain rfl (oc_assign hC (.tmp rfl) rfl rfl)) ?_
    refine WD_cons (.plain rfl (oc_assign hC (.tmp rfl) rfl rfl)) ?_
    refine WD_nil (by kernel_rfl) ?_
    refine W_seq ?_
    refine W_seq ?_
    refine W_region ?_
    refine WL_cons hC.fn (.plain rfl (oc_load hC (.tmp rfl) (by first | exact .p rfl | exact .rp) shp_30 (by first | exact unit_blkI (by first | omega | (simp <;> fail) | (simp; omega)) | exact unit_rowI (by first | omega | (simp; omega)) | exact unit_all (by first | omega | (simp <;> fail) | (simp; omega)) | exact unit_takeI0 (by first | omega | (simp; omega)) | exact unit_takeI (by first | omega | (simp; omega)) | exact unit_agg rfl) rfl rfl)) ?_
    refine WL_cons hC.fn (.plain rfl (oc_load hC (.tmp rfl) (by first | exact .p rfl | exact .rp) shp_31 (by first | exact unit_blkI (by first | omega | (simp <;> fail) | (simp; omega)) | exact unit_rowI (by first | omega | (simp; omega)) | exact unit_all (by first | omega | (simp <;> fail) | (simp; omega)) | exact unit_takeI0 (by first | omega | (simp; omega)) | exact unit_takeI (by first | omega | (simp; omega)) | exact unit_agg rfl) rfl rfl)) ?_
    refine WL_cons hC.fn (.plain rfl (oc_call hC (.cons (.tmp rfl) (.cons (.tmp rfl) .nil)) (.cons1 (.free (by first | exact inSL_I _ | simp)) (.cons1 (.free (by first | exact inSL_I _ | simp)) (.same (by first | exact inSL_I _ | simp)))) (block_c _ _ hs8 hb64 hs hb) (glob_cons rfl rfl (by first | exact inSL_I _ | simp) glob_nil) (by first | exact inSL_I _ | simp) (by first | exact .inl rfl | exact .inr (by simp)) rfl rfl)) ?_
    refine WL_cons hC.fn (.plain rfl (oc_move hC .cint rfl rfl)) ?_
    refine WL_nil ?_
    refine W_blk ?_
    refine W_loopW (fun (ζ : Nat) => ⟨6, [(8, .row 4), (9, .row 5), (29, .ag (I .u32 (blockM tbl s b))), (30, .i .i64 ζ), (1000000, .rp (I .u32 tbl))], [(4, .row 3 1 8 (I .i64 (blockM tbl s b))), (5, .row 3 1 8 (I .i64 start8))]⟩) (fun ζ => ζ ≤ 8) (fun ζ => 8 - ζ) (0) (by simp) (weak (fun k => k) (.cons rfl (by first | rfl | simp) (by show _ < _; decide) (.cons rfl (by first | rfl | simp) (by show _ < _; decide) (.cons rfl ren_agI (by first | exact inSL_I _ | simp) (.cons rfl rfl trivial (.cons rfl (by first | exact ren_agI | exact ren_vsI | exact ren_free _ _ (by first | exact inSL_I _ | simp)) (by first | exact inSL_I _ | simp) .nil))))) (.cons rfl (renRow rfl rfl) rfl (by first | exact inSL_I _ | simp) (.cons rfl (renRow rfl rfl) rfl (by first | exact inSL_I _ | simp) .nil)) rfl rfl rfl) ?_
    intro i hR
    replace hR : i ≤ 8 := hR
    first | show W _ _ _ ⟨6, [(8, .row 4), (9, .row 5), (29, .ag (I .u32 (blockM tbl s b))), (30, .i .i64 i), (1000000, .rp (I .u32 tbl))], [(4, .row 3 1 8 (I .i64 (blockM tbl s b))), (5, .row 3 1 8 (I .i64 start8))]⟩ | skip
    have hbi := hwb.get i
    have hst := W32_start8.get i
    have hl8 : start8.length = 8 := rfl
    refine W_seq ?_
    refine W_region ?_
    refine WL_cons hC.fn (.plain rfl (ox_cmp hC rfl (.tmp rfl) .cint rfl rfl rfl)) ?_
    refine WL_nil ?_
    refine W_seq ?_
    refine W_cond rfl (by decide) (fun hc => ?_) (fun hc => ?_)
    ·
      replace hc := lss_t hc
      refine W_skip ?_
      refine W_seq ?_
      refine W_blk ?_
      refine W_seq ?_
      refine W_region ?_
      refine WL_cons hC.fn (.plain rfl (oc_move hC (.tmp rfl) rfl rfl)) ?_
      refine WL_cons hC.fn (.plain rfl (ox_index hC  (.tmp rfl) (.tmp rfl) elt_30 (by first | rfl | exact toNat_up (by omega)) (by first | omega | (simp; omega)) (by first | exact Nat.mul_one _ | rfl) (by first | omega | (simp; omega)) (by exact (unit_I (by first | omega | (simp; omega)))) rfl rfl)) ?_
      refine WL_cons hC.fn (.plain rfl (oc_assign hC (.tmp rfl) rfl rfl)) ?_
      refine WL_cons hC.fn (.plain rfl (oc_assign hC (.tmp rfl) rfl rfl)) ?_
      refine WL_nil ?_
      refine W_seq ?_
      refine W_drawD hC ?_
      refine WD_cons (.plain rfl (oc_move hC (.tmp rfl) rfl rfl)) ?_
      refine WD_cons (.plain rfl (oc_conv hC (.tmp rfl) rfl Tryd.underlying3 (by first | exact i64_conv (by omega) | rfl) rfl rfl)) ?_
      refine WD_cons (.plain rfl (oc_move hC (.tmp rfl) rfl rfl)) ?_
      refine WD_cons (.plain rfl (oc_move hC (.tmp rfl) rfl rfl)) ?_
      refine WD_cons (.plain rfl (ox_indexS hC  (.tmp rfl) (.tmp rfl) idx_32 (by first | rfl | exact toNat_up (by omega)) (by first | exact Nat.mul_one _ | rfl) (by first | exact .row rfl | exact .sl (Nat.zero_add _) | exact .sl rfl | exact .vs (by first | omega | (simp; omega))) (by first | omega | (simp; omega)) rfl rfl)) ?_
      refine WD_cons (.plain rfl (oc_load hC (.tmp rfl) (by first | exact .p rfl | exact .rp) shp_3 (by exact (unit_I (by first | omega | (simp; omega)))) rfl rfl)) ?_
      refine WD_cons (.plain rfl (ox_cmp hC rfl (.tmp rfl) (.tmp rfl) (r := false) (by simp [cmpI]) rfl rfl)) ?_
      refine WD_cons (.plain rfl (oc_move hC (.tmp rfl) rfl rfl)) ?_
      refine WD_cons (.yes rfl rfl (by decide) rfl (oc_call hC .nil (.same (by first | exact inSL_I _ | simp)) (start_c) glob_nil (by first | exact inSL_I _ | simp) (by first | exact .inl rfl | exact .inr (by simp)) rfl rfl)) ?_
      refine WD_cons (.yes rfl rfl (by decide) rfl (oc_move hC (.tmp rfl) rfl rfl)) ?_
      refine WD_cons (.yes rfl rfl (by decide) rfl (ox_index hC  (.tmp rfl) (.tmp rfl) elt_30 (by first | rfl | exact toNat_up (by omega)) (by first | omega | (simp; omega)) (by first | exact Nat.mul_one _ | rfl) (by first | omega | (simp; omega)) (by exact (unit_I (by first | omega | (simp; omega)))) rfl rfl)) ?_
      refine WD_cons (.yes rfl rfl (by decide) rfl (oc_conv hC (.tmp rfl) rfl Tryd.underlying3 (by first | exact i64_conv (by omega) | rfl) rfl rfl)) ?_
      refine WD_cons (.yes rfl rfl (by decide) rfl (oc_move hC (.tmp rfl) rfl rfl)) ?_
      refine WD_cons (.yes rfl rfl (by decide) rfl (oc_move hC (.tmp rfl) rfl rfl)) ?_
      refine WD_cons (.yes rfl rfl (by decide) rfl (ox_indexS hC  (.tmp rfl) (.tmp rfl) idx_32 (by first | rfl | exact toNat_up (by omega)) (by first | exact Nat.mul_one _ | rfl) (by first | exact .row rfl | exact .sl (Nat.zero_add _) | exact .sl rfl | exact .vs (by first | omega | (simp; omega))) (by first | omega | (simp; omega)) rfl rfl)) ?_
      refine WD_cons (.yes rfl rfl (by decide) rfl (oc_load hC (.tmp rfl) (by first | exact .p rfl | exact .rp) shp_3 (by exact (unit_I (by first | omega | (simp; omega)))) rfl rfl)) ?_
      refine WD_cons (.yes rfl rfl (by decide) rfl (ox_cmp hC rfl (.tmp rfl) (.tmp rfl) (r := false) (by simp [cmpI]) rfl rfl)) ?_
      refine WD_cons (.plain rfl (ox_pick hC (.tmp rfl) .cbool (.tmp rfl) (by first | exact pick_t | exact pick_f | rfl) rfl rfl)) ?_
      refine WD_nil (by kernel_rfl) ?_
      refine W_cond rfl (by decide) (fun hc => by cases hc) (fun _ => ?_)
      refine W_skip ?_
      refine W_region ?_
      refine WL_cons hC.fn (.plain rfl (oc_bin hC rfl (.tmp rfl) .cint (by first | exact i64_add (by omega) | rfl) rfl rfl)) ?_
      refine WL_cons hC.fn (.plain rfl (oc_move hC (.tmp rfl) rfl rfl)) ?_
      refine WL_nil ?_
      exact ⟨(i + 1), (by omega), (weak (fun k => k) (.cons rfl (by first | rfl | simp) (by show _ < _; decide) (.cons rfl (by first | rfl | simp) (by show _ < _; decide) (.cons rfl (by first | exact ren_agI | exact ren_vsI | exact ren_free _ _ (by first | exact inSL_I _ | simp)) (by first | exact inSL_I _ | simp) (.cons rfl (by first | rfl | exact congrArg (AV.i _) (by omega) | exact congrArg (AV.i _) (by simp; omega)) trivial (.cons rfl (by first | exact ren_agI | exact ren_vsI | exact ren_free _ _ (by first | exact inSL_I _ | simp)) (by first | exact inSL_I _ | simp) .nil))))) (.cons rfl (renRow rfl rfl) rfl (by first | exact inSL_I _ | simp) (.cons rfl (renRow rfl rfl) rfl (by first | exact inSL_I _ | simp) .nil)) rfl rfl rfl), (by omega)⟩
    ·
      replace hc := lss_f hc
      refine W_exit ?_
      refine W_seq ?_
      refine W_region ?_
      refine WL_cons hC.fn (.plain rfl (oc_call hC .nil (.same (by first | exact inSL_I _ | simp)) (awake03_c) (glob_cons rfl rfl (by first | exact inSL_I _ | simp) glob_nil) (by first | exact inSL_I _ | simp) (by first | exact .inl rfl | exact .inr (by simp)) rfl rfl)) ?_
      refine WL_cons hC.fn (.plain rfl (oc_assign hC (.tmp rfl) rfl rfl)) ?_
      refine WL_nil ?_
      refine W_ret ?_
      exact fin0 (.cons (.tmp rfl) .nil) rfl trivial
set_option maxRecDepth 20000 in
set_option maxHeartbeats 4000000 in
theorem law_DigestPads (n : Nat) : FnC Tryd.prog 6 [(1000000, .rp (I .u32 tbl))] [.i .i64 n] [] [] (.b true) := by
  have hz := padZ_lt n
  have ha := padZ_all n
  have hlp := length_padM n
  refine FnC.intro (N0 := 0) (T := 40) (E := [(0, .i .i64 n), (1000000, .rp (I .u32 tbl))]) Tryd.func6 rfl (by decide) mix rfl rfl rfl (by simp) rfl ⟨(by first | exact inSL_I _ | trivial | simp), trivial⟩ (by simp) (by intro S _ _ h; simp) (fun F n0 X w ρ hC => ?_)
  refine W_seq ?_
  refine W_region ?_
  refine WL_cons hC.fn (.plain rfl (oc_assign hC .cbool rfl rfl)) ?_
  refine WL_nil ?_
  refine W_seq ?_
  refine W_seq ?_
  refine W_region ?_
  refine WL_cons hC.fn (.plain rfl (oc_move hC (.tmp rfl) rfl rfl)) ?_
  refine WL_cons hC.fn (.plain rfl (ox_cmp hC rfl (.tmp rfl) .cint rfl rfl rfl)) ?_
  refine WL_nil ?_
  refine W_cond rfl (by decide) (fun hc => ?_) (fun hc => ?_)
  ·
    replace hc := gtr_t hc
    
    refine W_seq ?_
    refine W_region ?_
    refine WL_cons hC.fn (.plain rfl (oc_call hC .nil (.same (by first | exact inSL_I _ | simp)) (awake03_c) (glob_cons rfl rfl (by first | exact inSL_I _ | simp) glob_nil) (by first | exact inSL_I _ | simp) (by first | exact .inl rfl | exact .inr (by simp)) rfl rfl)) ?_
    refine WL_cons hC.fn (.plain rfl (oc_assign hC (.tmp rfl) rfl rfl)) ?_
    refine WL_nil ?_
    refine W_ret ?_
    exact fin0 (.cons (.tmp rfl) .nil) rfl trivial
  ·
    replace hc := gtr_f hc
    
    refine W_skip ?_
    refine W_seq ?_
    refine W_region ?_
    refine WL_cons hC.fn (.plain rfl (oc_move hC (.tmp rfl) rfl rfl)) ?_
    refine WL_cons hC.fn (.plain rfl (oc_callN hC (.cons (.tmp rfl) .nil) (.cons1 (.free (by first | exact inSL_I _ | simp)) (.same (by first | exact inSL_I _ | simp))) (pad_c _ (by omega)) glob_nil (by first | exact inSL_I _ | simp) rfl (by first | exact .inl rfl | exact .inr ⟨by simp, novsL_I _⟩ | exact .inr ⟨by simp, by simp⟩) rfl rfl)) ?_
    refine WL_cons hC.fn (.plain rfl (oc_assign hC (.tmp rfl) rfl rfl)) ?_
    refine WL_nil ?_
    refine W_seq ?_
    refine W_drawD hC ?_
    refine WD_cons (.plain rfl (oc_move hC (.tmp rfl) rfl rfl)) ?_
    refine WD_cons (.plain rfl (ox_b2s hC (.tmp rfl) (by first | exact .row rfl | exact .vs | exact .sl rfl | exact .nils) (by first | exact take_allI (by first | assumption | rfl | (simp; omega) | omega) | exact take_cutI | exact take_takeI) (by first | assumption | rfl | omega | (simp; omega)) Tryd.underlying22 Tryd.underlying5 Tryd.underlying9 rfl rfl)) ?_
    refine WD_cons (.plain rfl (oc_move hC (.tmp rfl) rfl rfl)) ?_
    refine WD_cons (.plain rfl (oc_callN hC (.cons (.tmp rfl) .nil) (.cons1 (.free (by first | exact inSL_I _ | simp)) (.same (by first | exact inSL_I _ | simp))) (rpad_c _ (by omega)) glob_nil (by first | exact inSL_I _ | simp) rfl (by first | exact .inl rfl | exact .inr ⟨by simp, novsL_I _⟩ | exact .inr ⟨by simp, by simp⟩) rfl rfl)) ?_
    refine WD_cons (.plain rfl (ox_b2s hC (.tmp rfl) (by first | exact .row rfl | exact .vs | exact .sl rfl | exact .nils) (by first | exact take_allI (by first | assumption | rfl | (simp; omega) | omega) | exact take_cutI | exact take_takeI) (by first | assumption | rfl | omega | (simp; omega)) Tryd.underlying22 Tryd.underlying5 Tryd.underlying9 rfl rfl)) ?_
    refine WD_cons (.plain rfl (ox_eqs hC (.inl rfl) (.tmp rfl) (.tmp rfl) (r := true) (by simp) rfl rfl)) ?_
    refine WD_cons (.plain rfl (oc_move hC (.tmp rfl) rfl rfl)) ?_
    refine WD_cons (.yes rfl rfl (by decide) rfl (oc_move hC (.tmp rfl) rfl rfl)) ?_
    refine WD_cons (.yes rfl rfl (by decide) rfl (ox_cmp hC rfl (.tmp rfl) .cint (r := false) (by simp only [cmpI]; exact decide_eq_false (by omega)) rfl rfl)) ?_
    refine WD_cons (.yes rfl rfl (by decide) rfl (oc_move hC (.tmp rfl) rfl rfl)) ?_
    refine WD_cons (.yes rfl rfl (by decide) rfl (oc_move hC (.tmp rfl) rfl rfl)) ?_
    refine WD_cons (.yes rfl rfl (by decide) rfl (oc_move hC (.tmp rfl) rfl rfl)) ?_
    refine WD_cons (.yes rfl rfl (by decide) rfl (ox_len hC (.tmp rfl) (by first | exact .row rfl | exact .vs | exact .sl rfl | exact .nils) Tryd.underlying22 rfl rfl rfl)) ?_
    refine WD_cons (.yes rfl rfl (by decide) rfl (oc_bin hC rfl (.tmp rfl) (.tmp rfl) (r := ((n + (9 + padZ n) : Nat) : Int)) (nadd (by omega)) rfl rfl)) ?_
    refine WD_cons (.yes rfl rfl (by decide) rfl (oc_div hC (.inr rfl) (.tmp rfl) .cint (by first | decide | omega) (r := (((n + (9 + padZ n)) % 64 : Nat) : Int)) (nrem (y := 64)) rfl rfl)) ?_
    refine WD_cons (.yes rfl rfl (by decide) rfl (ox_cmp hC rfl (.tmp rfl) .cint (r := true) (by simp only [cmpI]; exact decide_eq_true (by omega)) rfl rfl)) ?_
    refine WD_cons (.yes rfl rfl (by decide) rfl (oc_move hC (.tmp rfl) rfl rfl)) ?_
    refine WD_cons (.yes rfl rfl (by decide) rfl (oc_move hC (.tmp rfl) rfl rfl)) ?_
    refine WD_cons (.yes rfl rfl (by decide) rfl (ox_len hC (.tmp rfl) (by first | exact .row rfl | exact .vs | exact .sl rfl | exact .nils) Tryd.underlying22 rfl rfl rfl)) ?_
    refine WD_cons (.yes rfl rfl (by decide) rfl (ox_cmp hC rfl (.tmp rfl) .cint (r := true) (by simp only [cmpI]; exact decide_eq_true (by omega)) rfl rfl)) ?_
    refine WD_cons (.yes rfl rfl (by decide) rfl (ox_pick hC (.tmp rfl) (.tmp rfl) .cbool (by first | exact pick_t | exact pick_f | rfl) rfl rfl)) ?_
    refine WD_cons (.yes rfl rfl (by decide) rfl (oc_move hC (.tmp rfl) rfl rfl)) ?_
    refine WD_cons (.yes rfl rfl (by decide) rfl (oc_move hC (.tmp rfl) rfl rfl)) ?_
    refine WD_cons (.yes rfl rfl (by decide) rfl (ox_len hC (.tmp rfl) (by first | exact .row rfl | exact .vs | exact .sl rfl | exact .nils) Tryd.underlying22 rfl rfl rfl)) ?_
    refine WD_cons (.yes rfl rfl (by decide) rfl (ox_cmp hC rfl (.tmp rfl) .cint (r := true) (by simp only [cmpI]; exact decide_eq_true (by omega)) rfl rfl)) ?_
    refine WD_cons (.yes rfl rfl (by decide) rfl (ox_pick hC (.tmp rfl) (.tmp rfl) .cbool (by first | exact pick_t | exact pick_f | rfl) rfl rfl)) ?_
    refine WD_cons (.yes rfl rfl (by decide) rfl (ox_pick hC (.tmp rfl) .cbool (.tmp rfl) (by first | exact pick_t | exact pick_f | rfl) rfl rfl)) ?_
    refine WD_cons (.plain rfl (ox_pick hC (.tmp rfl) (.tmp rfl) .cbool (by first | exact pick_t | exact pick_f | rfl) rfl rfl)) ?_
    refine WD_cons (.plain rfl (oc_move hC (.tmp rfl) rfl rfl)) ?_
    refine WD_cons (.yes rfl rfl (by decide) rfl (oc_call hC .nil (.same (by first | exact inSL_I _ | simp)) (awake03_c) (glob_cons rfl rfl (by first | exact inSL_I _ | simp) glob_nil) (by first | exact inSL_I _ | simp) (by first | exact .inl rfl | exact .inr (by simp)) rfl rfl)) ?_
    refine WD_cons (.plain rfl (ox_pick hC (.tmp rfl) (.tmp rfl) .cbool (by first | exact pick_t | exact pick_f | rfl) rfl rfl)) ?_
    refine WD_cons (.plain rfl (oc_assign hC (.tmp rfl) rfl rfl)) ?_
    refine WD_nil (by kernel_rfl) ?_
    refine W_ret ?_
    exact fin0 (.cons (.tmp rfl) .nil) rfl trivial
set_option maxRecDepth 20000 in
set_option maxHeartbeats 4000000 in
theorem law_DigestPadsNeg (n : Int) (hn : n < 0) : FnC Tryd.prog 6 [(1000000, .rp (I .u32 tbl))] [.i .i64 n] [] [] (.b true) := by
  refine FnC.intro (N0 := 0) (T := 40) (E := [(0, .i .i64 n), (1000000, .rp (I .u32 tbl))]) Tryd.func6 rfl (by decide) mix rfl rfl rfl (by simp) rfl ⟨(by first | exact inSL_I _ | trivial | simp), trivial⟩ (by simp) (by intro S _ _ h; simp) (fun F n0 X w ρ hC => ?_)
  refine W_seq ?_
  refine W_region ?_
  refine WL_cons hC.fn (.plain rfl (oc_assign hC .cbool rfl rfl)) ?_
  refine WL_nil ?_
  refine W_seq ?_
  refine W_seq ?_
  refine W_region ?_
  refine WL_cons hC.fn (.plain rfl (oc_move hC (.tmp rfl) rfl rfl)) ?_
  refine WL_cons hC.fn (.plain rfl (ox_cmp hC rfl (.tmp rfl) .cint rfl rfl rfl)) ?_
  refine WL_nil ?_
  refine W_cond rfl (by decide) (fun hc => ?_) (fun hc => ?_)
  ·
    replace hc := gtr_t hc
    exfalso
    omega
  ·
    replace hc := gtr_f hc
    
    refine W_skip ?_
    refine W_seq ?_
    refine W_region ?_
    refine WL_cons hC.fn (.plain rfl (oc_move hC (.tmp rfl) rfl rfl)) ?_
    refine WL_cons hC.fn (.plain rfl (oc_call hC (.cons (.tmp rfl) .nil) (.cons1 (.free (by first | exact inSL_I _ | simp)) (.same (by first | exact inSL_I _ | simp))) (padneg_c n hn) glob_nil (by first | exact inSL_I _ | simp) (by first | exact .inl rfl | exact .inr (by simp)) rfl rfl)) ?_
    refine WL_cons hC.fn (.plain rfl (oc_assign hC (.tmp rfl) rfl rfl)) ?_
    refine WL_nil ?_
    refine W_seq ?_
    refine W_drawD hC ?_
    refine WD_cons (.plain rfl (oc_move hC (.tmp rfl) rfl rfl)) ?_
    refine WD_cons (.plain rfl (ox_b2s (l := []) hC (.tmp rfl) (by first | exact .row rfl | exact .vs | exact .sl rfl | exact .nils) rfl rfl Tryd.underlying22 Tryd.underlying5 Tryd.underlying9 rfl rfl)) ?_
    refine WD_cons (.plain rfl (oc_move hC (.tmp rfl) rfl rfl)) ?_
    refine WD_cons (.plain rfl (oc_call hC (.cons (.tmp rfl) .nil) (.cons1 (.free (by first | exact inSL_I _ | simp)) (.same (by first | exact inSL_I _ | simp))) (rpadneg_c n hn) glob_nil (by first | exact inSL_I _ | simp) (by first | exact .inl rfl | exact .inr (by simp)) rfl rfl)) ?_
    refine WD_cons (.plain rfl (ox_b2s (l := []) hC (.tmp rfl) (by first | exact .row rfl | exact .vs | exact .sl rfl | exact .nils) rfl rfl Tryd.underlying22 Tryd.underlying5 Tryd.underlying9 rfl rfl)) ?_
    refine WD_cons (.plain rfl (ox_eqs hC (.inl rfl) (.tmp rfl) (.tmp rfl) (r := true) (by simp) rfl rfl)) ?_
    refine WD_cons (.plain rfl (oc_move hC (.tmp rfl) rfl rfl)) ?_
    refine WD_cons (.yes rfl rfl (by decide) rfl (oc_move hC (.tmp rfl) rfl rfl)) ?_
    refine WD_cons (.yes rfl rfl (by decide) rfl (ox_cmp hC rfl (.tmp rfl) .cint (r := true) (by simp only [cmpI]; exact decide_eq_true (by omega)) rfl rfl)) ?_
    refine WD_cons (.yes rfl rfl (by decide) rfl (oc_move hC (.tmp rfl) rfl rfl)) ?_
    refine WD_cons (.no (s1 := ⟨_, (19, .tu []) :: _, _⟩) rfl rfl (by decide) rfl (by decide) (fun t ht => by cases ht; exact ⟨blt_lt rfl, blt_lt rfl⟩) (fun t => setE_cons _ _ _ _) rfl rfl) ?_
    refine WD_cons (.no (s1 := ⟨_, (20, .tu []) :: _, _⟩) rfl rfl (by decide) rfl (by decide) (fun t ht => by cases ht; exact ⟨blt_lt rfl, blt_lt rfl⟩) (fun t => setE_cons _ _ _ _) rfl rfl) ?_
    refine WD_cons (.no (s1 := ⟨_, (21, .tu []) :: _, _⟩) rfl rfl (by decide) rfl (by decide) (fun t ht => by cases ht; exact ⟨blt_lt rfl, blt_lt rfl⟩) (fun t => setE_cons _ _ _ _) rfl rfl) ?_
    refine WD_cons (.no (s1 := ⟨_, (22, .tu []) :: _, _⟩) rfl rfl (by decide) rfl (by decide) (fun t ht => by cases ht; exact ⟨blt_lt rfl, blt_lt rfl⟩) (fun t => setE_cons _ _ _ _) rfl rfl) ?_
    refine WD_cons (.no (s1 := ⟨_, (23, .tu []) :: _, _⟩) rfl rfl (by decide) rfl (by decide) (fun t ht => by cases ht; exact ⟨blt_lt rfl, blt_lt rfl⟩) (fun t => setE_cons _ _ _ _) rfl rfl) ?_
    refine WD_cons (.no (s1 := ⟨_, (24, .tu []) :: _, _⟩) rfl rfl (by decide) rfl (by decide) (fun t ht => by cases ht; exact ⟨blt_lt rfl, blt_lt rfl⟩) (fun t => setE_cons _ _ _ _) rfl rfl) ?_
    refine WD_cons (.no (s1 := ⟨_, (25, .tu []) :: _, _⟩) rfl rfl (by decide) rfl (by decide) (fun t ht => by cases ht; exact ⟨blt_lt rfl, blt_lt rfl⟩) (fun t => setE_cons _ _ _ _) rfl rfl) ?_
    refine WD_cons (.noU (s1 := ⟨_, (26, .tu []) :: _, _⟩) rfl rfl (by decide) rfl (fun t ht => by cases ht; exact ⟨blt_lt rfl, blt_lt rfl⟩) (fun t => setE_cons _ _ _ _) rfl rfl) ?_
    refine WD_cons (.noU (s1 := ⟨_, (27, .tu []) :: _, _⟩) rfl rfl (by decide) rfl (fun t ht => by cases ht; exact ⟨blt_lt rfl, blt_lt rfl⟩) (fun t => setE_cons _ _ _ _) rfl rfl) ?_
    refine WD_cons (.noU (s1 := ⟨_, (28, .tu []) :: _, _⟩) rfl rfl (by decide) rfl (fun t ht => by cases ht; exact ⟨blt_lt rfl, blt_lt rfl⟩) (fun t => setE_cons _ _ _ _) rfl rfl) ?_
    refine WD_cons (.no (s1 := ⟨_, (29, .tu []) :: _, _⟩) rfl rfl (by decide) rfl (by decide) (fun t ht => by cases ht; exact ⟨blt_lt rfl, blt_lt rfl⟩) (fun t => setE_cons _ _ _ _) rfl rfl) ?_
    refine WD_cons (.no (s1 := ⟨_, (30, .tu []) :: _, _⟩) rfl rfl (by decide) rfl (by decide) (fun t ht => by cases ht; exact ⟨blt_lt rfl, blt_lt rfl⟩) (fun t => setE_cons _ _ _ _) rfl rfl) ?_
    refine WD_cons (.noU (s1 := ⟨_, (31, .tu []) :: _, _⟩) rfl rfl (by decide) rfl (fun t ht => by cases ht; exact ⟨blt_lt rfl, blt_lt rfl⟩) (fun t => setE_cons _ _ _ _) rfl rfl) ?_
    refine WD_cons (.noU (s1 := ⟨_, (32, .tu []) :: _, _⟩) rfl rfl (by decide) rfl (fun t ht => by cases ht; exact ⟨blt_lt rfl, blt_lt rfl⟩) (fun t => setE_cons _ _ _ _) rfl rfl) ?_
    refine WD_cons (.noU (s1 := ⟨_, (33, .tu []) :: _, _⟩) rfl rfl (by decide) rfl (fun t ht => by cases ht; exact ⟨blt_lt rfl, blt_lt rfl⟩) (fun t => setE_cons _ _ _ _) rfl rfl) ?_
    refine WD_cons (.no (s1 := ⟨_, (34, .tu []) :: _, _⟩) rfl rfl (by decide) rfl (by decide) (fun t ht => by cases ht; exact ⟨blt_lt rfl, blt_lt rfl⟩) (fun t => setE_cons _ _ _ _) rfl rfl) ?_
    refine WD_cons (.yes rfl rfl (by decide) rfl (ox_pick hC (.tmp rfl) .cbool (.tmp rfl) (by first | exact pick_t | exact pick_f | rfl) rfl rfl)) ?_
    refine WD_cons (.plain rfl (ox_pick hC (.tmp rfl) (.tmp rfl) .cbool (by first | exact pick_t | exact pick_f | rfl) rfl rfl)) ?_
    refine WD_cons (.plain rfl (oc_move hC (.tmp rfl) rfl rfl)) ?_
    refine WD_cons (.yes rfl rfl (by decide) rfl (oc_call hC .nil (.same (by first | exact inSL_I _ | simp)) (awake03_c) (glob_cons rfl rfl (by first | exact inSL_I _ | simp) glob_nil) (by first | exact inSL_I _ | simp) (by first | exact .inl rfl | exact .inr (by simp)) rfl rfl)) ?_
    refine WD_cons (.plain rfl (ox_pick hC (.tmp rfl) (.tmp rfl) .cbool (by first | exact pick_t | exact pick_f | rfl) rfl rfl)) ?_
    refine WD_cons (.plain rfl (oc_assign hC (.tmp rfl) rfl rfl)) ?_
    refine WD_nil (by kernel_rfl) ?_
    refine W_ret ?_
    exact fin0 (.cons (.tmp rfl) .nil) rfl trivial
set_option maxRecDepth 20000 in
set_option maxHeartbeats 4000000 in
theorem law_DigestSteps (n : Nat) (b : List Int) (hn : b.length = n) (hb : B8 b) : FnC Tryd.prog 7 [(1000000, .rp (I .u32 tbl))] [.vs n (I .u8 b)] [] [] (.b true) := by
  have hpz := padZ_lt n
  have hlq := len_pad n
  have hlp := length_padded b
  rw [hn] at hlp
  have hP := B8_padded hb
  refine FnC.intro (N0 := 0) (T := 63) (E := [(0, .vs n (I .u8 b)), (1000000, .rp (I .u32 tbl))]) Tryd.func7 rfl (by decide) mix rfl rfl rfl (by simp) rfl ⟨(by first | exact inSL_I _ | trivial | simp), trivial⟩ (by simp) (by intro S _ _ h; simp) (fun F n0 X w ρ hC => ?_)
  refine W_seq ?_
  refine W_region ?_
  refine WL_cons hC.fn (.plain rfl (oc_assign hC .cbool rfl rfl)) ?_
  refine WL_nil ?_
  refine W_seq ?_
  refine W_seq ?_
  refine W_region ?_
  refine WL_cons hC.fn (.plain rfl (oc_move hC (.tmp rfl) rfl rfl)) ?_
  refine WL_cons hC.fn (.plain rfl (ox_len hC (.tmp rfl) (by first | exact .row rfl | exact .vs | exact .sl rfl | exact .nils) Tryd.underlying22 rfl rfl rfl)) ?_
  refine WL_cons hC.fn (.plain rfl (ox_cmp hC rfl (.tmp rfl) .cint rfl rfl rfl)) ?_
  refine WL_nil ?_
  refine W_cond rfl (by decide) (fun hc => ?_) (fun hc => ?_)
  ·
    replace hc := gtr_t hc
    
    refine W_seq ?_
    refine W_region ?_
    refine WL_cons hC.fn (.plain rfl (oc_call hC .nil (.same (by first | exact inSL_I _ | simp)) (awake03_c) (glob_cons rfl rfl (by first | exact inSL_I _ | simp) glob_nil) (by first | exact inSL_I _ | simp) (by first | exact .inl rfl | exact .inr (by simp)) rfl rfl)) ?_
    refine WL_cons hC.fn (.plain rfl (oc_assign hC (.tmp rfl) rfl rfl)) ?_
    refine WL_nil ?_
    refine W_ret ?_
    exact fin0 (.cons (.tmp rfl) .nil) rfl trivial
  ·
    replace hc := gtr_f hc
    
    refine W_skip ?_
    refine W_seq ?_
    refine W_region ?_
    refine WL_cons hC.fn (.plain rfl (ox_litRI (k := .u8) (ws := []) hC .nil Tryd.underlying22 cells_5 zero_5 rfl (by decide) rfl rfl (by first | rfl | simp) rfl rfl rfl)) ?_
    refine WL_cons hC.fn (.plain rfl (oc_move hC (.tmp rfl) rfl rfl)) ?_
    refine WL_cons hC.fn (.plain rfl (ox_append (n' := n) (cs' := I .u8 b) hC (.tmp rfl) (.tmp rfl) (by first | exact .row rfl rfl (by first | exact .here rfl | exact .there (.here rfl) rfl | exact .there (.there (.here rfl) rfl) rfl | exact .there (.there (.there (.here rfl) rfl) rfl) rfl | exact .there (.there (.there (.there (.here rfl) rfl) rfl) rfl) rfl | exact .there (.there (.there (.there (.there (.here rfl) rfl) rfl) rfl) rfl) rfl | exact .there (.there (.there (.there (.there (.there (.here rfl) rfl) rfl) rfl) rfl) rfl) rfl | exact .there (.there (.there (.there (.there (.there (.there (.here rfl) rfl) rfl) rfl) rfl) rfl) rfl) rfl | exact .there (.there (.there (.there (.there (.there (.there (.there (.here rfl) rfl) rfl) rfl) rfl) rfl) rfl) rfl) rfl | exact .there (.there (.there (.there (.there (.there (.there (.there (.there (.here rfl) rfl) rfl) rfl) rfl) rfl) rfl) rfl) rfl) rfl) | exact .nils) (by first | exact .row rfl | exact .vs | exact .sl rfl | exact .nils) (by first | exact hro_nil | exact hro_one rfl) Tryd.underlying22 cells_5 bytes_5 zero_5 rfl (by decide) (by rw [length_I]; omega) (by first | rfl | exact one_takeI) (Nat.zero_add _) ((app_I (us := []) hn).trans rfl) (by simp only [maxLen]; omega) (by omega) rfl rfl)) ?_
    refine WL_cons hC.fn (.plain rfl (oc_move hC (.tmp rfl) rfl rfl)) ?_
    refine WL_cons hC.fn (.plain rfl (ox_len hC (.tmp rfl) (by first | exact .row rfl | exact .vs | exact .sl rfl | exact .nils) Tryd.underlying22 rfl rfl rfl)) ?_
    refine WL_cons hC.fn (.plain rfl (oc_callN hC (.cons (.tmp rfl) .nil) (.cons1 (.free (by first | exact inSL_I _ | simp)) (.same (by first | exact inSL_I _ | simp))) (pad_c _ (by omega)) glob_nil (by first | exact inSL_I _ | simp) rfl (by first | exact .inl rfl | exact .inr ⟨by simp, novsL_I _⟩ | exact .inr ⟨by simp, by simp⟩) rfl rfl)) ?_
    refine WL_cons hC.fn (.plain rfl (ox_append (n' := 64 * nblk n) (cs' := I .u8 (paddedM b)) hC (.tmp rfl) (.tmp rfl) (by first | exact .row rfl rfl (by first | exact .here rfl | exact .there (.here rfl) rfl | exact .there (.there (.here rfl) rfl) rfl | exact .there (.there (.there (.here rfl) rfl) rfl) rfl | exact .there (.there (.there (.there (.here rfl) rfl) rfl) rfl) rfl | exact .there (.there (.there (.there (.there (.here rfl) rfl) rfl) rfl) rfl) rfl | exact .there (.there (.there (.there (.there (.there (.here rfl) rfl) rfl) rfl) rfl) rfl) rfl | exact .there (.there (.there (.there (.there (.there (.there (.here rfl) rfl) rfl) rfl) rfl) rfl) rfl) rfl | exact .there (.there (.there (.there (.there (.there (.there (.there (.here rfl) rfl) rfl) rfl) rfl) rfl) rfl) rfl) rfl | exact .there (.there (.there (.there (.there (.there (.there (.there (.there (.here rfl) rfl) rfl) rfl) rfl) rfl) rfl) rfl) rfl) rfl) | exact .nils) (by first | exact .row rfl | exact .vs | exact .sl rfl | exact .nils) (by first | exact hro_nil | exact hro_one rfl) Tryd.underlying22 cells_5 bytes_5 zero_5 rfl (by decide) (by rw [length_I, length_padM]; omega) (by first | rfl | exact one_takeI) (len_pad _) (by unfold paddedM; rw [hn]; exact app_I (length_padM _)) (by simp only [maxLen]; omega) (by omega) rfl rfl)) ?_
    refine WL_cons hC.fn (.plain rfl (oc_assign hC (.tmp rfl) rfl rfl)) ?_
    refine WL_nil ?_
    refine W_seq ?_
    refine W_region ?_
    refine WL_cons hC.fn (.plain rfl (oc_call hC .nil (.same (by first | exact inSL_I _ | simp)) (start_c) glob_nil (by first | exact inSL_I _ | simp) (by first | exact .inl rfl | exact .inr (by simp)) rfl rfl)) ?_
    refine WL_cons hC.fn (.plain rfl (ox_alloc hC zero_30 rfl rfl rfl)) ?_
    refine WL_cons hC.fn (.plain rfl (ox_store hC (.tmp rfl) (.tmp rfl) rfl shp_30 (by first | rfl | exact flat_agI) (by first | exact cells1 rfl | (rw [cells_ag, length_I]; omega) | rfl | (simp <;> fail) | (simp; omega)) (by first | exact Nat.le_refl _ | decide | (simp <;> fail) | (simp; omega)) (by first | exact put_allI (by first | omega | (simp; omega)) | exact put_all (by rw [length_I]; first | omega | (simp; omega)) | exact put_all rfl) (by first | exact .here | exact .there (.here) rfl | exact .there (.there (.here) rfl) rfl | exact .there (.there (.there (.here) rfl) rfl) rfl | exact .there (.there (.there (.there (.here) rfl) rfl) rfl) rfl | exact .there (.there (.there (.there (.there (.here) rfl) rfl) rfl) rfl) rfl | exact .there (.there (.there (.there (.there (.there (.here) rfl) rfl) rfl) rfl) rfl) rfl | exact .there (.there (.there (.there (.there (.there (.there (.here) rfl) rfl) rfl) rfl) rfl) rfl) rfl | exact .there (.there (.there (.there (.there (.there (.there (.there (.here) rfl) rfl) rfl) rfl) rfl) rfl) rfl) rfl | exact .there (.there (.there (.there (.there (.there (.there (.there (.there (.here) rfl) rfl) rfl) rfl) rfl) rfl) rfl) rfl) rfl) rfl)) ?_
    refine WL_nil ?_
    refine W_seq ?_
    refine W_blk ?_
    refine W_weak (weak_sl (t := 3) rfl rfl) ?_
    refine W_loopW (fun (ζ : Nat) => ⟨5, [(0, .vs n (I .u8 b)), (3, .sl 3 (64 * ζ) (64 * (nblk n - ζ))), (4, .p 4 0), (1000000, .rp (I .u32 tbl))], [(3, .row 5 1 (64 * nblk n) (I .u8 (paddedM b))), (4, .blk 30 (I .u32 (sumAt tbl (paddedM b) start8 ζ)))]⟩) (fun ζ => ζ ≤ nblk n) (fun ζ => nblk n - ζ) (0) (Nat.zero_le _) (weak (fun k => k) (.cons rfl (by first | exact ren_agI | exact ren_vsI | exact ren_free _ _ (by first | exact inSL_I _ | simp)) (by first | exact inSL_I _ | simp) (.cons rfl (by first | rfl | (show AV.sl 3 _ _ = AV.sl 3 _ _; congr 1 <;> omega)) (by show _ < _; decide) (.cons rfl (by first | rfl | simp) (by show _ < _; decide) (.cons rfl (by first | exact ren_agI | exact ren_vsI | exact ren_free _ _ (by first | exact inSL_I _ | simp)) (by first | exact inSL_I _ | simp) .nil)))) (.cons rfl (renRow rfl rfl) rfl (by first | exact inSL_I _ | simp) (.cons rfl (renBlk sumAt_zero) rfl (by first | exact inSL_I _ | simp) .nil)) rfl rfl rfl) ?_
    intro i hR
    replace hR : i ≤ nblk n := hR
    first | show W _ _ _ ⟨5, [(0, .vs n (I .u8 b)), (3, .sl 3 (64 * i) (64 * (nblk n - i))), (4, .p 4 0), (1000000, .rp (I .u32 tbl))], [(3, .row 5 1 (64 * nblk n) (I .u8 (paddedM b))), (4, .blk 30 (I .u32 (sumAt tbl (paddedM b) start8 i)))]⟩ | skip
    have hsl := length_sumAt (ks := tbl) (m := paddedM b) (s := start8) rfl i
    have hsw := W32_sumAt (ks := tbl) (m := paddedM b) W32_start8 i
    refine W_seq ?_
    refine W_seq ?_
    refine W_region ?_
    refine WL_cons hC.fn (.plain rfl (oc_move hC (.tmp rfl) rfl rfl)) ?_
    refine WL_cons hC.fn (.plain rfl (ox_len hC (.tmp rfl) (by first | exact .row rfl | exact .vs | exact .sl rfl | exact .nils) Tryd.underlying22 rfl rfl rfl)) ?_
    refine WL_cons hC.fn (.plain rfl (ox_cmp hC rfl (.tmp rfl) .cint rfl rfl rfl)) ?_
    refine WL_nil ?_
    refine W_cond rfl (by decide) (fun hc => ?_) (fun hc => ?_)
    ·
      replace hc := geq_t hc
      refine W_skip ?_
      refine W_seq ?_
      refine W_blk ?_
      refine W_drawD hC ?_
      refine WD_cons (.plain rfl (oc_load hC (.tmp rfl) (by first | exact .p rfl | exact .rp) shp_30 (by first | exact unit_blkI (by first | omega | (simp <;> fail) | (simp; omega)) | exact unit_rowI (by first | omega | (simp; omega)) | exact unit_all (by first | omega | (simp <;> fail) | (simp; omega)) | exact unit_takeI0 (by first | omega | (simp; omega)) | exact unit_takeI (by first | omega | (simp; omega)) | exact unit_agg rfl) rfl rfl)) ?_
      refine WD_cons (.plain rfl (oc_move hC (.tmp rfl) rfl rfl)) ?_
      refine WD_cons (.plain rfl (oc_arr hC (.tmp rfl) idx_31 (by first | exact .row rfl | exact .sl | exact .vs (by first | omega | (simp; omega))) (by decide) (by first | omega | (simp; omega)) rfl rfl)) ?_
      refine WD_cons (.plain rfl (oc_load hC (.tmp rfl) (by first | exact .p rfl | exact .rp) shp_31 (by first | exact unit_blkI (by first | omega | (simp <;> fail) | (simp; omega)) | exact unit_rowI (by first | omega | (simp; omega)) | exact unit_all (by first | omega | (simp <;> fail) | (simp; omega)) | exact unit_takeI0 (by first | omega | (simp; omega)) | exact unit_takeI (by first | omega | (simp; omega)) | exact unit_agg rfl) rfl rfl)) ?_
      refine WD_cons (.plain rfl (oc_call hC (.cons (.tmp rfl) (.cons (.tmp rfl) .nil)) (.cons1 (.free (by first | exact inSL_I _ | simp)) (.cons1 (.free (by first | exact inSL_I _ | simp)) (.same (by first | exact inSL_I _ | simp)))) (block_c _ _ hsl (by simp; omega) hsw (B8_cut hP _ _)) (glob_cons rfl rfl (by first | exact inSL_I _ | simp) glob_nil) (by first | exact inSL_I _ | simp) (by first | exact .inl rfl | exact .inr (by simp)) rfl rfl)) ?_
      refine WD_cons (.plain rfl (ox_store hC (.tmp rfl) (.tmp rfl) rfl shp_30 (by first | rfl | exact flat_agI) (by rw [cells_ag, length_I, length_block]) (by first | exact Nat.le_refl _ | decide | (simp <;> fail) | (simp; omega)) (put_allI (by rw [length_block]; exact hsl)) (by first | exact .here | exact .there (.here) rfl | exact .there (.there (.here) rfl) rfl | exact .there (.there (.there (.here) rfl) rfl) rfl | exact .there (.there (.there (.there (.here) rfl) rfl) rfl) rfl | exact .there (.there (.there (.there (.there (.here) rfl) rfl) rfl) rfl) rfl | exact .there (.there (.there (.there (.there (.there (.here) rfl) rfl) rfl) rfl) rfl) rfl | exact .there (.there (.there (.there (.there (.there (.there (.here) rfl) rfl) rfl) rfl) rfl) rfl) rfl | exact .there (.there (.there (.there (.there (.there (.there (.there (.here) rfl) rfl) rfl) rfl) rfl) rfl) rfl) rfl | exact .there (.there (.there (.there (.there (.there (.there (.there (.there (.here) rfl) rfl) rfl) rfl) rfl) rfl) rfl) rfl) rfl) rfl)) ?_
      refine WD_nil (by kernel_rfl) ?_
      refine W_region ?_
      refine WL_cons hC.fn (.plain rfl (oc_move hC (.tmp rfl) rfl rfl)) ?_
      refine WL_cons hC.fn (.plain rfl (ox_cutS hC (.tmp rfl) (.yes (n := 64) .cint rfl) .no idx_22 (by first | exact .row rfl (Nat.mul_one _) | exact .sl rfl | exact .vs (by first | omega | (simp; omega)) | exact .nils) (by first | omega | (simp; omega)) (by first | omega | (simp; omega)) (by first | exact cut_vsI | rfl) rfl rfl)) ?_
      refine WL_cons hC.fn (.plain rfl (oc_assign hC (.tmp rfl) rfl rfl)) ?_
      refine WL_nil ?_
      exact ⟨(i + 1), (by omega), (weak (fun k => k) (.cons rfl (by first | exact ren_agI | exact ren_vsI | exact ren_free _ _ (by first | exact inSL_I _ | simp)) (by first | exact inSL_I _ | simp) (.cons rfl (by show AV.sl 3 _ _ = AV.sl 3 _ _; congr 1 <;> omega) (by show _ < _; decide) (.cons rfl (by first | rfl | simp) (by show _ < _; decide) (.cons rfl (by first | exact ren_agI | exact ren_vsI | exact ren_free _ _ (by first | exact inSL_I _ | simp)) (by first | exact inSL_I _ | simp) .nil)))) (.cons rfl (renRow rfl rfl) rfl (by first | exact inSL_I _ | simp) (.cons rfl (renBlk sumAt_succ) rfl (by first | exact inSL_I _ | simp) .nil)) rfl rfl rfl), (by omega)⟩
    ·
      replace hc := geq_f hc
      obtain rfl : i = nblk n := by omega
      refine W_exit ?_
      refine W_seq ?_
      refine W_region ?_
      refine WL_cons hC.fn (.plain rfl (oc_move hC (.tmp rfl) rfl rfl)) ?_
      refine WL_cons hC.fn (.plain rfl (ox_lit hC (.cons (.tmp rfl) .nil) Tryd.underlying42 cells_22 zero_22 rfl (by decide) rfl rfl (by first | rfl | simp) rfl rfl)) ?_
      refine WL_cons hC.fn (.plain rfl (oc_call hC (.cons (.tmp rfl) .nil) (.cons1 (by first | exact .free (by first | exact inSL_I _ | simp) | exact .row rfl rfl (by first | exact inSL_I _ | simp) | exact .nils | exact .sl1 rfl (by first | exact cut_I | rfl) (by first | exact inSL_I _ | simp)) (.same (by first | exact inSL_I _ | simp))) (of_c [(n, b)] 1 rfl (by decide) (by intro p hp; simp only [List.mem_cons, List.not_mem_nil, or_false] at hp; rcases hp with rfl <;> exact ⟨by assumption, by assumption⟩) (by simp; omega)) (glob_cons rfl rfl (by first | exact inSL_I _ | simp) glob_nil) (by first | exact inSL_I _ | simp) (by first | exact .inl rfl | exact .inr (by simp)) rfl rfl)) ?_
      rw [show (List.map (·.2) [(n, b)]).flatten = b by simp]
      have hshl := length_sh b
      refine WL_cons hC.fn (.plain rfl (ox_alloc hC zero_24 rfl rfl rfl)) ?_
      refine WL_cons hC.fn (.plain rfl (ox_store hC (.tmp rfl) (.tmp rfl) rfl shp_24 (by first | rfl | exact flat_agI) (by first | exact cells1 rfl | (rw [cells_ag, length_I]; omega) | rfl | (simp <;> fail) | (simp; omega)) (by first | exact Nat.le_refl _ | decide | (simp <;> fail) | (simp; omega)) (by first | exact put_allI (by first | omega | (simp; omega)) | exact put_all (by rw [length_I]; first | omega | (simp; omega)) | exact put_all rfl) (by first | exact .here | exact .there (.here) rfl | exact .there (.there (.here) rfl) rfl | exact .there (.there (.there (.here) rfl) rfl) rfl | exact .there (.there (.there (.there (.here) rfl) rfl) rfl) rfl | exact .there (.there (.there (.there (.there (.here) rfl) rfl) rfl) rfl) rfl | exact .there (.there (.there (.there (.there (.there (.here) rfl) rfl) rfl) rfl) rfl) rfl | exact .there (.there (.there (.there (.there (.there (.there (.here) rfl) rfl) rfl) rfl) rfl) rfl) rfl | exact .there (.there (.there (.there (.there (.there (.there (.there (.here) rfl) rfl) rfl) rfl) rfl) rfl) rfl) rfl | exact .there (.there (.there (.there (.there (.there (.there (.there (.there (.here) rfl) rfl) rfl) rfl) rfl) rfl) rfl) rfl) rfl) rfl)) ?_
      refine WL_nil ?_
      refine W_seq ?_
      refine W_seq ?_
      refine W_region ?_
      refine WL_cons hC.fn (.plain rfl (oc_load hC (.tmp rfl) (by first | exact .p rfl | exact .rp) shp_30 (by first | exact unit_blkI (by first | omega | (simp <;> fail) | (simp; omega)) | exact unit_rowI (by first | omega | (simp; omega)) | exact unit_all (by first | omega | (simp <;> fail) | (simp; omega)) | exact unit_takeI0 (by first | omega | (simp; omega)) | exact unit_takeI (by first | omega | (simp; omega)) | exact unit_agg rfl) rfl rfl)) ?_
      refine WL_cons hC.fn (.plain rfl (oc_move hC .cint rfl rfl)) ?_
      refine WL_nil ?_
      refine W_blk ?_
      refine W_loopW (fun (ζ : Nat) => ⟨6, [(3, .sl 3 (64 * nblk n) 0), (5, .p 5 0), (34, .ag (I .u32 (sumAt tbl (paddedM b) start8 (nblk n)))), (35, .i .i64 ζ), (1000000, .rp (I .u32 tbl))], [(3, .row 5 1 (64 * nblk n) (I .u8 (paddedM b))), (5, .blk 24 (I .u8 (sha tbl b)))]⟩) (fun ζ => ζ ≤ 8) (fun ζ => 8 - ζ) (0) (by simp) (weak (fun k => k) (.cons rfl (by show AV.sl 3 _ _ = AV.sl 3 _ _; congr 1 <;> omega) (by show _ < _; decide) (.cons rfl (by first | rfl | simp) (by show _ < _; decide) (.cons rfl (by first | exact ren_agI | exact ren_vsI | exact ren_free _ _ (by first | exact inSL_I _ | simp)) (by first | exact inSL_I _ | simp) (.cons rfl rfl trivial (.cons rfl (by first | exact ren_agI | exact ren_vsI | exact ren_free _ _ (by first | exact inSL_I _ | simp)) (by first | exact inSL_I _ | simp) .nil))))) (.cons rfl (renRow rfl rfl) rfl (by first | exact inSL_I _ | simp) (.cons rfl (renBlk rfl) rfl (by first | exact inSL_I _ | simp) .nil)) rfl rfl rfl) ?_
      intro i hR
      replace hR : i ≤ 8 := hR
      first | show W _ _ _ ⟨6, [(3, .sl 3 (64 * nblk n) 0), (5, .p 5 0), (34, .ag (I .u32 (sumAt tbl (paddedM b) start8 (nblk n)))), (35, .i .i64 i), (1000000, .rp (I .u32 tbl))], [(3, .row 5 1 (64 * nblk n) (I .u8 (paddedM b))), (5, .blk 24 (I .u8 (sha tbl b)))]⟩ | skip
      refine W_seq ?_
      refine W_region ?_
      refine WL_cons hC.fn (.plain rfl (ox_cmp hC rfl (.tmp rfl) .cint rfl rfl rfl)) ?_
      refine WL_nil ?_
      refine W_seq ?_
      refine W_cond rfl (by decide) (fun hc => ?_) (fun hc => ?_)
      ·
        replace hc := lss_t hc
        refine W_skip ?_
        refine W_seq ?_
        refine W_blk ?_
        refine W_seq ?_
        refine W_region ?_
        refine WL_cons hC.fn (.plain rfl (oc_move hC (.tmp rfl) rfl rfl)) ?_
        refine WL_cons hC.fn (.plain rfl (ox_index hC  (.tmp rfl) (.tmp rfl) elt_30 (by first | rfl | exact toNat_up (by omega)) (by first | omega | (simp; omega)) (by first | exact Nat.mul_one _ | rfl) (by first | omega | (simp; omega)) (by exact (unit_I (by first | omega | (simp; omega)))) rfl rfl)) ?_
        refine WL_cons hC.fn (.plain rfl (oc_assign hC (.tmp rfl) rfl rfl)) ?_
        refine WL_cons hC.fn (.plain rfl (oc_assign hC (.tmp rfl) rfl rfl)) ?_
        refine WL_nil ?_
        refine W_seq ?_
        refine W_region ?_
        refine WL_cons hC.fn (.plain rfl (oc_move hC .cint rfl rfl)) ?_
        refine WL_nil ?_
        refine W_blk ?_
        refine W_loopW (fun (ζ : Nat) => ⟨6, [(3, .sl 3 (64 * nblk n) 0), (5, .p 5 0), (34, .ag (I .u32 (sumAt tbl (paddedM b) start8 (nblk n)))), (35, .i .i64 i), (6, .i .i64 i), (7, .i .u32 ((sumAt tbl (paddedM b) start8 (nblk n)).getD i 0)), (39, .i .i64 ζ), (1000000, .rp (I .u32 tbl))], [(3, .row 5 1 (64 * nblk n) (I .u8 (paddedM b))), (5, .blk 24 (I .u8 (sha tbl b)))]⟩) (fun ζ => ζ ≤ 4) (fun ζ => 4 - ζ) (0) (by simp) (weak (fun k => k) (.cons rfl (by first | rfl | simp) (by show _ < _; decide) (.cons rfl (by first | rfl | simp) (by show _ < _; decide) (.cons rfl (by first | exact ren_agI | exact ren_vsI | exact ren_free _ _ (by first | exact inSL_I _ | simp)) (by first | exact inSL_I _ | simp) (.cons rfl (by first | rfl | exact congrArg (AV.i _) (by omega) | exact congrArg (AV.i _) (by simp; omega)) trivial (.cons rfl (by first | rfl | exact congrArg (AV.i _) (by omega) | exact congrArg (AV.i _) (by simp; omega)) trivial (.cons rfl (by first | rfl | exact congrArg (AV.i _) (by omega) | exact congrArg (AV.i _) (by simp; omega)) trivial (.cons rfl rfl trivial (.cons rfl (by first | exact ren_agI | exact ren_vsI | exact ren_free _ _ (by first | exact inSL_I _ | simp)) (by first | exact inSL_I _ | simp) .nil)))))))) (.cons rfl (renRow rfl rfl) rfl (by first | exact inSL_I _ | simp) (.cons rfl (renBlk rfl) rfl (by first | exact inSL_I _ | simp) .nil)) rfl rfl rfl) ?_
        intro k hR
        replace hR : k ≤ 4 := hR
        first | show W _ _ _ ⟨6, [(3, .sl 3 (64 * nblk n) 0), (5, .p 5 0), (34, .ag (I .u32 (sumAt tbl (paddedM b) start8 (nblk n)))), (35, .i .i64 i), (6, .i .i64 i), (7, .i .u32 ((sumAt tbl (paddedM b) start8 (nblk n)).getD i 0)), (39, .i .i64 k), (1000000, .rp (I .u32 tbl))], [(3, .row 5 1 (64 * nblk n) (I .u8 (paddedM b))), (5, .blk 24 (I .u8 (sha tbl b)))]⟩ | skip
        refine W_seq ?_
        refine W_region ?_
        refine WL_cons hC.fn (.plain rfl (ox_cmp hC rfl (.tmp rfl) .cint rfl rfl rfl)) ?_
        refine WL_nil ?_
        refine W_seq ?_
        refine W_cond rfl (by decide) (fun hc => ?_) (fun hc => ?_)
        ·
          replace hc := lss_t hc
          refine W_skip ?_
          refine W_seq ?_
          refine W_blk ?_
          refine W_seq ?_
          refine W_region ?_
          refine WL_cons hC.fn (.plain rfl (oc_move hC (.tmp rfl) rfl rfl)) ?_
          refine WL_cons hC.fn (.plain rfl (oc_assign hC (.tmp rfl) rfl rfl)) ?_
          refine WL_nil ?_
          refine W_seq ?_
          refine W_drawD hC ?_
          refine WD_cons (.plain rfl (oc_move hC (.tmp rfl) rfl rfl)) ?_
          refine WD_cons (.plain rfl (oc_bin hC rfl .cint (.tmp rfl) (by first | exact i64_mul (by omega) | rfl) rfl rfl)) ?_
          refine WD_cons (.plain rfl (oc_move hC (.tmp rfl) rfl rfl)) ?_
          refine WD_cons (.plain rfl (oc_bin hC rfl (.tmp rfl) (.tmp rfl) (by first | exact i64_add (by omega) | rfl) rfl rfl)) ?_
          refine WD_cons (.plain rfl (ox_indexA hC (j := 4 * i + k) (.tmp rfl) (.tmp rfl) idx_24 (by first | rfl | omega | (simp; omega)) (by first | omega | (simp; omega)) (by first | exact Nat.mul_one _ | rfl) (by first | exact .p (Nat.zero_add _) | exact .p rfl | exact .rp (by first | omega | (simp; omega))) rfl rfl)) ?_
          refine WD_cons (.plain rfl (oc_load hC (.tmp rfl) (by first | exact .p rfl | exact .rp) shp_5 (by exact (unit_I (by rw [hshl]; omega))) rfl rfl)) ?_
          refine WD_cons (.plain rfl (oc_move hC (.tmp rfl) rfl rfl)) ?_
          refine WD_cons (.plain rfl (oc_move hC (.tmp rfl) rfl rfl)) ?_
          refine WD_cons (.plain rfl (oc_bin hC rfl .cint (.tmp rfl) (by first | exact i64_mul (by omega) | rfl) rfl rfl)) ?_
          refine WD_cons (.plain rfl (oc_bin hC rfl .cint (.tmp rfl) (by first | exact i64_sub (by omega) | rfl) rfl rfl)) ?_
          refine WD_cons (.plain rfl (oc_shift hC (.inr rfl) (.tmp rfl) (.tmp rfl) (by first | decide | omega) rfl rfl rfl)) ?_
          refine WD_cons (.plain rfl (oc_conv hC (.tmp rfl) rfl Tryd.underlying5 (r := outB (sumAt tbl (paddedM b) start8 (nblk n)) (4 * i + k)) (out_byte (by omega)) rfl rfl)) ?_
          refine WD_cons (.plain rfl (ox_cmp hC rfl (.tmp rfl) (.tmp rfl) (r := false) (by rw [sha_get (by omega), hn]; simp [cmpI]) rfl rfl)) ?_
          refine WD_nil (by kernel_rfl) ?_
          refine W_cond rfl (by decide) (fun hc => by cases hc) (fun _ => ?_)
          refine W_skip ?_
          refine W_region ?_
          refine WL_cons hC.fn (.plain rfl (oc_bin hC rfl (.tmp rfl) .cint (by first | exact i64_add (by omega) | rfl) rfl rfl)) ?_
          refine WL_cons hC.fn (.plain rfl (oc_move hC (.tmp rfl) rfl rfl)) ?_
          refine WL_nil ?_
          exact ⟨(k + 1), (by omega), (weak (fun k => k) (.cons rfl (by first | rfl | simp) (by show _ < _; decide) (.cons rfl (by first | rfl | simp) (by show _ < _; decide) (.cons rfl (by first | exact ren_agI | exact ren_vsI | exact ren_free _ _ (by first | exact inSL_I _ | simp)) (by first | exact inSL_I _ | simp) (.cons rfl (by first | rfl | exact congrArg (AV.i _) (by omega) | exact congrArg (AV.i _) (by simp; omega)) trivial (.cons rfl (by first | rfl | exact congrArg (AV.i _) (by omega) | exact congrArg (AV.i _) (by simp; omega)) trivial (.cons rfl (by first | rfl | exact congrArg (AV.i _) (by omega) | exact congrArg (AV.i _) (by simp; omega)) trivial (.cons rfl (by first | rfl | exact congrArg (AV.i _) (by omega) | exact congrArg (AV.i _) (by simp; omega)) trivial (.cons rfl (by first | exact ren_agI | exact ren_vsI | exact ren_free _ _ (by first | exact inSL_I _ | simp)) (by first | exact inSL_I _ | simp) .nil)))))))) (.cons rfl (renRow rfl rfl) rfl (by first | exact inSL_I _ | simp) (.cons rfl (renBlk rfl) rfl (by first | exact inSL_I _ | simp) .nil)) rfl rfl rfl), (by omega)⟩
        ·
          replace hc := lss_f hc
          obtain rfl : k = 4 := by omega
          refine W_exit ?_
          refine W_region ?_
          refine WL_cons hC.fn (.plain rfl (oc_bin hC rfl (.tmp rfl) .cint (by first | exact i64_add (by omega) | rfl) rfl rfl)) ?_
          refine WL_cons hC.fn (.plain rfl (oc_move hC (.tmp rfl) rfl rfl)) ?_
          refine WL_nil ?_
          exact ⟨(i + 1), (by omega), (weak (fun k => k) (.cons rfl (by first | rfl | simp) (by show _ < _; decide) (.cons rfl (by first | rfl | simp) (by show _ < _; decide) (.cons rfl (by first | exact ren_agI | exact ren_vsI | exact ren_free _ _ (by first | exact inSL_I _ | simp)) (by first | exact inSL_I _ | simp) (.cons rfl (by first | rfl | exact congrArg (AV.i _) (by omega) | exact congrArg (AV.i _) (by simp; omega)) trivial (.cons rfl (by first | exact ren_agI | exact ren_vsI | exact ren_free _ _ (by first | exact inSL_I _ | simp)) (by first | exact inSL_I _ | simp) .nil))))) (.cons rfl (renRow rfl rfl) rfl (by first | exact inSL_I _ | simp) (.cons rfl (renBlk rfl) rfl (by first | exact inSL_I _ | simp) .nil)) rfl rfl rfl), (by omega)⟩
      ·
        replace hc := lss_f hc
        obtain rfl : i = 8 := by omega
        refine W_exit ?_
        refine W_seq ?_
        refine W_region ?_
        refine WL_cons hC.fn (.plain rfl (oc_move hC (.tmp rfl) rfl rfl)) ?_
        refine WL_cons hC.fn (.plain rfl (ox_len hC (.tmp rfl) (by first | exact .row rfl | exact .vs | exact .sl rfl | exact .nils) Tryd.underlying22 rfl rfl rfl)) ?_
        refine WL_cons hC.fn (.plain rfl (ox_cmp hC rfl (.tmp rfl) .cint (r := true) (by simp [cmpI]) rfl rfl)) ?_
        refine WL_cons hC.fn (.plain rfl (oc_move hC (.tmp rfl) rfl rfl)) ?_
        refine WL_cons hC.fn (.yes rfl rfl (by decide) rfl (oc_call hC .nil (.same (by first | exact inSL_I _ | simp)) (awake03_c) (glob_cons rfl rfl (by first | exact inSL_I _ | simp) glob_nil) (by first | exact inSL_I _ | simp) (by first | exact .inl rfl | exact .inr (by simp)) rfl rfl)) ?_
        refine WL_cons hC.fn (.plain rfl (ox_pick hC (.tmp rfl) (.tmp rfl) .cbool (by first | exact pick_t | exact pick_f | rfl) rfl rfl)) ?_
        refine WL_cons hC.fn (.plain rfl (oc_assign hC (.tmp rfl) rfl rfl)) ?_
        refine WL_nil ?_
        refine W_ret ?_
        exact fin0 (.cons (.tmp rfl) .nil) rfl trivial
set_option maxRecDepth 20000 in
set_option maxHeartbeats 4000000 in
theorem law_DigestGoesOn (na nb : Nat) (a b : List Int) (ha : a.length = na) (hb : b.length = nb) (ha8 : B8 a) (hb8 : B8 b) : FnC Tryd.prog 8 [(1000000, .rp (I .u32 tbl))] [.vs na (I .u8 a), .vs nb (I .u8 b)] [] [] (.b true) := by
  have hpz := padZ_lt (na + nb)
  have hlq := len_pad (na + nb)
  have hm64 := padZ_all (na + nb)
  have hM8 : B8 (b ++ padM (na + nb)) := B8_append hb8 (B8_padM _)
  have hMl : (b ++ padM (na + nb)).length = nb + (9 + padZ (na + nb)) := by rw [List.length_append, hb, length_padM]
  have hpm : paddedM (a ++ b) = a ++ (b ++ padM (na + nb)) := by unfold paddedM; rw [List.length_append, ha, hb, List.append_assoc]
  refine FnC.intro (N0 := 0) (T := 100) (E := [(0, .vs na (I .u8 a)), (1, .vs nb (I .u8 b)), (1000000, .rp (I .u32 tbl))]) Tryd.func8 rfl (by decide) mix rfl rfl rfl (by simp) rfl ⟨(by first | exact inSL_I _ | trivial | simp), (by first | exact inSL_I _ | trivial | simp), trivial⟩ (by simp) (by intro S _ _ h; simp) (fun F n0 X w ρ hC => ?_)
  refine W_seq ?_
  refine W_region ?_
  refine WL_cons hC.fn (.plain rfl (oc_assign hC .cbool rfl rfl)) ?_
  refine WL_nil ?_
  refine W_seq ?_
  refine W_seq ?_
  rcases (show 300 < na ∨ (na ≤ 300 ∧ 300 < nb) ∨ (na ≤ 300 ∧ nb ≤ 300 ∧ na % 64 ≠ 0) ∨ (na ≤ 300 ∧ nb ≤ 300 ∧ na % 64 = 0) by omega) with h | h | h | h
  ·
    refine W_region ?_
    refine WL_cons hC.fn (.plain rfl (oc_move hC (.tmp rfl) rfl rfl)) ?_
    refine WL_cons hC.fn (.plain rfl (ox_len hC (.tmp rfl) (by first | exact .row rfl | exact .vs | exact .sl rfl | exact .nils) Tryd.underlying22 rfl rfl rfl)) ?_
    refine WL_cons hC.fn (.plain rfl (ox_cmp hC rfl (.tmp rfl) .cint (r := true) (by simp only [cmpI]; exact decide_eq_true (by omega)) rfl rfl)) ?_
    refine WL_cons hC.fn (.plain rfl (oc_move hC (.tmp rfl) rfl rfl)) ?_
    refine WL_cons hC.fn (.no (s1 := ⟨_, (14, .tu []) :: _, _⟩) rfl rfl (by decide) rfl (by decide) (fun t ht => by cases ht; exact ⟨blt_lt rfl, blt_lt rfl⟩) (fun t => setE_cons _ _ _ _) rfl rfl) ?_
    refine WL_cons hC.fn (.no (s1 := ⟨_, (15, .tu []) :: _, _⟩) rfl rfl (by decide) rfl (by decide) (fun t ht => by cases ht; exact ⟨blt_lt rfl, blt_lt rfl⟩) (fun t => setE_cons _ _ _ _) rfl rfl) ?_
    refine WL_cons hC.fn (.no (s1 := ⟨_, (16, .tu []) :: _, _⟩) rfl rfl (by decide) rfl (by decide) (fun t ht => by cases ht; exact ⟨blt_lt rfl, blt_lt rfl⟩) (fun t => setE_cons _ _ _ _) rfl rfl) ?_
    refine WL_cons hC.fn (.plain rfl (ox_pick hC (.tmp rfl) .cbool (.tmp rfl) (by first | exact pick_t | exact pick_f | rfl) rfl rfl)) ?_
    refine WL_cons hC.fn (.plain rfl (oc_move hC (.tmp rfl) rfl rfl)) ?_
    refine WL_cons hC.fn (.no (s1 := ⟨_, (19, .tu []) :: _, _⟩) rfl rfl (by decide) rfl (by decide) (fun t ht => by cases ht; exact ⟨blt_lt rfl, blt_lt rfl⟩) (fun t => setE_cons _ _ _ _) rfl rfl) ?_
    refine WL_cons hC.fn (.no (s1 := ⟨_, (20, .tu []) :: _, _⟩) rfl rfl (by decide) rfl (by decide) (fun t ht => by cases ht; exact ⟨blt_lt rfl, blt_lt rfl⟩) (fun t => setE_cons _ _ _ _) rfl rfl) ?_
    refine WL_cons hC.fn (.no (s1 := ⟨_, (21, .tu []) :: _, _⟩) rfl rfl (by decide) rfl (by decide) (fun t ht => by cases ht; exact ⟨blt_lt rfl, blt_lt rfl⟩) (fun t => setE_cons _ _ _ _) rfl rfl) ?_
    refine WL_cons hC.fn (.no (s1 := ⟨_, (22, .tu []) :: _, _⟩) rfl rfl (by decide) rfl (by decide) (fun t ht => by cases ht; exact ⟨blt_lt rfl, blt_lt rfl⟩) (fun t => setE_cons _ _ _ _) rfl rfl) ?_
    refine WL_cons hC.fn (.plain rfl (ox_pick hC (.tmp rfl) .cbool (.tmp rfl) (by first | exact pick_t | exact pick_f | rfl) rfl rfl)) ?_
    refine WL_nil ?_
    refine W_cond rfl (by decide) (fun _ => ?_) (fun hc => by cases hc)
    refine W_seq ?_
    refine W_region ?_
    refine WL_cons hC.fn (.plain rfl (oc_call hC .nil (.same (by first | exact inSL_I _ | simp)) (awake03_c) (glob_cons rfl rfl (by first | exact inSL_I _ | simp) glob_nil) (by first | exact inSL_I _ | simp) (by first | exact .inl rfl | exact .inr (by simp)) rfl rfl)) ?_
    refine WL_cons hC.fn (.plain rfl (oc_assign hC (.tmp rfl) rfl rfl)) ?_
    refine WL_nil ?_
    refine W_ret ?_
    exact fin0 (.cons (.tmp rfl) .nil) rfl trivial
  ·
    refine W_region ?_
    refine WL_cons hC.fn (.plain rfl (oc_move hC (.tmp rfl) rfl rfl)) ?_
    refine WL_cons hC.fn (.plain rfl (ox_len hC (.tmp rfl) (by first | exact .row rfl | exact .vs | exact .sl rfl | exact .nils) Tryd.underlying22 rfl rfl rfl)) ?_
    refine WL_cons hC.fn (.plain rfl (ox_cmp hC rfl (.tmp rfl) .cint (r := false) (by simp only [cmpI]; exact decide_eq_false (by omega)) rfl rfl)) ?_
    refine WL_cons hC.fn (.plain rfl (oc_move hC (.tmp rfl) rfl rfl)) ?_
    refine WL_cons hC.fn (.yes rfl rfl (by decide) rfl (oc_move hC (.tmp rfl) rfl rfl)) ?_
    refine WL_cons hC.fn (.yes rfl rfl (by decide) rfl (ox_len hC (.tmp rfl) (by first | exact .row rfl | exact .vs | exact .sl rfl | exact .nils) Tryd.underlying22 rfl rfl rfl)) ?_
    refine WL_cons hC.fn (.yes rfl rfl (by decide) rfl (ox_cmp hC rfl (.tmp rfl) .cint (r := true) (by simp only [cmpI]; exact decide_eq_true (by omega)) rfl rfl)) ?_
    refine WL_cons hC.fn (.plain rfl (ox_pick hC (.tmp rfl) .cbool (.tmp rfl) (by first | exact pick_t | exact pick_f | rfl) rfl rfl)) ?_
    refine WL_cons hC.fn (.plain rfl (oc_move hC (.tmp rfl) rfl rfl)) ?_
    refine WL_cons hC.fn (.no (s1 := ⟨_, (19, .tu []) :: _, _⟩) rfl rfl (by decide) rfl (by decide) (fun t ht => by cases ht; exact ⟨blt_lt rfl, blt_lt rfl⟩) (fun t => setE_cons _ _ _ _) rfl rfl) ?_
    refine WL_cons hC.fn (.no (s1 := ⟨_, (20, .tu []) :: _, _⟩) rfl rfl (by decide) rfl (by decide) (fun t ht => by cases ht; exact ⟨blt_lt rfl, blt_lt rfl⟩) (fun t => setE_cons _ _ _ _) rfl rfl) ?_
    refine WL_cons hC.fn (.no (s1 := ⟨_, (21, .tu []) :: _, _⟩) rfl rfl (by decide) rfl (by decide) (fun t ht => by cases ht; exact ⟨blt_lt rfl, blt_lt rfl⟩) (fun t => setE_cons _ _ _ _) rfl rfl) ?_
    refine WL_cons hC.fn (.no (s1 := ⟨_, (22, .tu []) :: _, _⟩) rfl rfl (by decide) rfl (by decide) (fun t ht => by cases ht; exact ⟨blt_lt rfl, blt_lt rfl⟩) (fun t => setE_cons _ _ _ _) rfl rfl) ?_
    refine WL_cons hC.fn (.plain rfl (ox_pick hC (.tmp rfl) .cbool (.tmp rfl) (by first | exact pick_t | exact pick_f | rfl) rfl rfl)) ?_
    refine WL_nil ?_
    refine W_cond rfl (by decide) (fun _ => ?_) (fun hc => by cases hc)
    refine W_seq ?_
    refine W_region ?_
    refine WL_cons hC.fn (.plain rfl (oc_call hC .nil (.same (by first | exact inSL_I _ | simp)) (awake03_c) (glob_cons rfl rfl (by first | exact inSL_I _ | simp) glob_nil) (by first | exact inSL_I _ | simp) (by first | exact .inl rfl | exact .inr (by simp)) rfl rfl)) ?_
    refine WL_cons hC.fn (.plain rfl (oc_assign hC (.tmp rfl) rfl rfl)) ?_
    refine WL_nil ?_
    refine W_ret ?_
    exact fin0 (.cons (.tmp rfl) .nil) rfl trivial
  ·
    refine W_region ?_
    refine WL_cons hC.fn (.plain rfl (oc_move hC (.tmp rfl) rfl rfl)) ?_
    refine WL_cons hC.fn (.plain rfl (ox_len hC (.tmp rfl) (by first | exact .row rfl | exact .vs | exact .sl rfl | exact .nils) Tryd.underlying22 rfl rfl rfl)) ?_
    refine WL_cons hC.fn (.plain rfl (ox_cmp hC rfl (.tmp rfl) .cint (r := false) (by simp only [cmpI]; exact decide_eq_false (by omega)) rfl rfl)) ?_
    refine WL_cons hC.fn (.plain rfl (oc_move hC (.tmp rfl) rfl rfl)) ?_
    refine WL_cons hC.fn (.yes rfl rfl (by decide) rfl (oc_move hC (.tmp rfl) rfl rfl)) ?_
    refine WL_cons hC.fn (.yes rfl rfl (by decide) rfl (ox_len hC (.tmp rfl) (by first | exact .row rfl | exact .vs | exact .sl rfl | exact .nils) Tryd.underlying22 rfl rfl rfl)) ?_
    refine WL_cons hC.fn (.yes rfl rfl (by decide) rfl (ox_cmp hC rfl (.tmp rfl) .cint (r := false) (by simp only [cmpI]; exact decide_eq_false (by omega)) rfl rfl)) ?_
    refine WL_cons hC.fn (.plain rfl (ox_pick hC (.tmp rfl) .cbool (.tmp rfl) (by first | exact pick_t | exact pick_f | rfl) rfl rfl)) ?_
    refine WL_cons hC.fn (.plain rfl (oc_move hC (.tmp rfl) rfl rfl)) ?_
    refine WL_cons hC.fn (.yes rfl rfl (by decide) rfl (oc_move hC (.tmp rfl) rfl rfl)) ?_
    refine WL_cons hC.fn (.yes rfl rfl (by decide) rfl (ox_len hC (.tmp rfl) (by first | exact .row rfl | exact .vs | exact .sl rfl | exact .nils) Tryd.underlying22 rfl rfl rfl)) ?_
    refine WL_cons hC.fn (.yes rfl rfl (by decide) rfl (oc_div hC (.inr rfl) (.tmp rfl) .cint (by first | decide | omega) (r := ((na % 64 : Nat) : Int)) (nrem (y := 64)) rfl rfl)) ?_
    refine WL_cons hC.fn (.yes rfl rfl (by decide) rfl (ox_cmp hC rfl (.tmp rfl) .cint (r := true) (by simp only [cmpI]; exact decide_eq_true (by omega)) rfl rfl)) ?_
    refine WL_cons hC.fn (.plain rfl (ox_pick hC (.tmp rfl) .cbool (.tmp rfl) (by first | exact pick_t | exact pick_f | rfl) rfl rfl)) ?_
    refine WL_nil ?_
    refine W_cond rfl (by decide) (fun _ => ?_) (fun hc => by cases hc)
    refine W_seq ?_
    refine W_region ?_
    refine WL_cons hC.fn (.plain rfl (oc_call hC .nil (.same (by first | exact inSL_I _ | simp)) (awake03_c) (glob_cons rfl rfl (by first | exact inSL_I _ | simp) glob_nil) (by first | exact inSL_I _ | simp) (by first | exact .inl rfl | exact .inr (by simp)) rfl rfl)) ?_
    refine WL_cons hC.fn (.plain rfl (oc_assign hC (.tmp rfl) rfl rfl)) ?_
    refine WL_nil ?_
    refine W_ret ?_
    exact fin0 (.cons (.tmp rfl) .nil) rfl trivial
  ·
    refine W_region ?_
    refine WL_cons hC.fn (.plain rfl (oc_move hC (.tmp rfl) rfl rfl)) ?_
    refine WL_cons hC.fn (.plain rfl (ox_len hC (.tmp rfl) (by first | exact .row rfl | exact .vs | exact .sl rfl | exact .nils) Tryd.underlying22 rfl rfl rfl)) ?_
    refine WL_cons hC.fn (.plain rfl (ox_cmp hC rfl (.tmp rfl) .cint (r := false) (by simp only [cmpI]; exact decide_eq_false (by omega)) rfl rfl)) ?_
    refine WL_cons hC.fn (.plain rfl (oc_move hC (.tmp rfl) rfl rfl)) ?_
    refine WL_cons hC.fn (.yes rfl rfl (by decide) rfl (oc_move hC (.tmp rfl) rfl rfl)) ?_
    refine WL_cons hC.fn (.yes rfl rfl (by decide) rfl (ox_len hC (.tmp rfl) (by first | exact .row rfl | exact .vs | exact .sl rfl | exact .nils) Tryd.underlying22 rfl rfl rfl)) ?_
    refine WL_cons hC.fn (.yes rfl rfl (by decide) rfl (ox_cmp hC rfl (.tmp rfl) .cint (r := false) (by simp only [cmpI]; exact decide_eq_false (by omega)) rfl rfl)) ?_
    refine WL_cons hC.fn (.plain rfl (ox_pick hC (.tmp rfl) .cbool (.tmp rfl) (by first | exact pick_t | exact pick_f | rfl) rfl rfl)) ?_
    refine WL_cons hC.fn (.plain rfl (oc_move hC (.tmp rfl) rfl rfl)) ?_
    refine WL_cons hC.fn (.yes rfl rfl (by decide) rfl (oc_move hC (.tmp rfl) rfl rfl)) ?_
    refine WL_cons hC.fn (.yes rfl rfl (by decide) rfl (ox_len hC (.tmp rfl) (by first | exact .row rfl | exact .vs | exact .sl rfl | exact .nils) Tryd.underlying22 rfl rfl rfl)) ?_
    refine WL_cons hC.fn (.yes rfl rfl (by decide) rfl (oc_div hC (.inr rfl) (.tmp rfl) .cint (by first | decide | omega) (r := ((na % 64 : Nat) : Int)) (nrem (y := 64)) rfl rfl)) ?_
    refine WL_cons hC.fn (.yes rfl rfl (by decide) rfl (ox_cmp hC rfl (.tmp rfl) .cint (r := false) (by simp only [cmpI]; exact decide_eq_false (by omega)) rfl rfl)) ?_
    refine WL_cons hC.fn (.plain rfl (ox_pick hC (.tmp rfl) .cbool (.tmp rfl) (by first | exact pick_t | exact pick_f | rfl) rfl rfl)) ?_
    refine WL_nil ?_
    refine W_cond rfl (by decide) (fun hc => by cases hc) (fun _ => ?_)
    refine W_skip ?_
    refine W_seq ?_
    refine W_region ?_
    refine WL_cons hC.fn (.plain rfl (oc_call hC .nil (.same (by first | exact inSL_I _ | simp)) (start_c) glob_nil (by first | exact inSL_I _ | simp) (by first | exact .inl rfl | exact .inr (by simp)) rfl rfl)) ?_
    refine WL_cons hC.fn (.plain rfl (ox_alloc hC zero_30 rfl rfl rfl)) ?_
    refine WL_cons hC.fn (.plain rfl (ox_store hC (.tmp rfl) (.tmp rfl) rfl shp_30 (by first | rfl | exact flat_agI) (by first | exact cells1 rfl | (rw [cells_ag, length_I]; omega) | rfl | (simp <;> fail) | (simp; omega)) (by first | exact Nat.le_refl _ | decide | (simp <;> fail) | (simp; omega)) (by first | exact put_allI (by first | omega | (simp; omega)) | exact put_all (by rw [length_I]; first | omega | (simp; omega)) | exact put_all rfl) (by first | exact .here | exact .there (.here) rfl | exact .there (.there (.here) rfl) rfl | exact .there (.there (.there (.here) rfl) rfl) rfl | exact .there (.there (.there (.there (.here) rfl) rfl) rfl) rfl | exact .there (.there (.there (.there (.there (.here) rfl) rfl) rfl) rfl) rfl | exact .there (.there (.there (.there (.there (.there (.here) rfl) rfl) rfl) rfl) rfl) rfl | exact .there (.there (.there (.there (.there (.there (.there (.here) rfl) rfl) rfl) rfl) rfl) rfl) rfl | exact .there (.there (.there (.there (.there (.there (.there (.there (.here) rfl) rfl) rfl) rfl) rfl) rfl) rfl) rfl | exact .there (.there (.there (.there (.there (.there (.there (.there (.there (.here) rfl) rfl) rfl) rfl) rfl) rfl) rfl) rfl) rfl) rfl)) ?_
    refine WL_nil ?_
    refine W_seq ?_
    refine W_seq ?_
    refine W_region ?_
    refine WL_cons hC.fn (.plain rfl (oc_assign hC .cint rfl rfl)) ?_
    refine WL_nil ?_
    refine W_blk ?_
    refine W_loopW (fun (ζ : Nat) => ⟨1, [(0, .vs na (I .u8 a)), (1, .vs nb (I .u8 b)), (5, .p 0 0), (6, .i .i64 (64 * (ζ : Int))), (1000000, .rp (I .u32 tbl))], [(0, .blk 30 (I .u32 (sumAt tbl a start8 ζ)))]⟩) (fun ζ => ζ ≤ na / 64) (fun ζ => na / 64 - ζ) (0) (Nat.zero_le _) (weak (fun k => k) (.cons rfl (by first | exact ren_agI | exact ren_vsI | exact ren_free _ _ (by first | exact inSL_I _ | simp)) (by first | exact inSL_I _ | simp) (.cons rfl (by first | exact ren_agI | exact ren_vsI | exact ren_free _ _ (by first | exact inSL_I _ | simp)) (by first | exact inSL_I _ | simp) (.cons rfl (by first | rfl | simp) (by show _ < _; decide) (.cons rfl rfl trivial (.cons rfl (by first | exact ren_agI | exact ren_vsI | exact ren_free _ _ (by first | exact inSL_I _ | simp)) (by first | exact inSL_I _ | simp) .nil))))) (.cons rfl (renBlk sumAt_zero) rfl (by first | exact inSL_I _ | simp) .nil) rfl rfl rfl) ?_
    intro i hR
    replace hR : i ≤ na / 64 := hR
    first | show W _ _ _ ⟨1, [(0, .vs na (I .u8 a)), (1, .vs nb (I .u8 b)), (5, .p 0 0), (6, .i .i64 (64 * (i : Int))), (1000000, .rp (I .u32 tbl))], [(0, .blk 30 (I .u32 (sumAt tbl a start8 i)))]⟩ | skip
    have hsl := length_sumAt (ks := tbl) (m := a) (s := start8) rfl i
    have hsw := W32_sumAt (ks := tbl) (m := a) W32_start8 i
    refine W_seq ?_
    refine W_seq ?_
    refine W_region ?_
    refine WL_cons hC.fn (.plain rfl (oc_move hC (.tmp rfl) rfl rfl)) ?_
    refine WL_cons hC.fn (.plain rfl (oc_move hC (.tmp rfl) rfl rfl)) ?_
    refine WL_cons hC.fn (.plain rfl (ox_len hC (.tmp rfl) (by first | exact .row rfl | exact .vs | exact .sl rfl | exact .nils) Tryd.underlying22 rfl rfl rfl)) ?_
    refine WL_cons hC.fn (.plain rfl (ox_cmp hC rfl (.tmp rfl) (.tmp rfl) rfl rfl rfl)) ?_
    refine WL_nil ?_
    refine W_cond rfl (by decide) (fun hc => ?_) (fun hc => ?_)
    ·
      replace hc := lss_t hc
      
      refine W_skip ?_
      refine W_seq ?_
      refine W_blk ?_
      refine W_drawD hC ?_
      refine WD_cons (.plain rfl (oc_load hC (.tmp rfl) (by first | exact .p rfl | exact .rp) shp_30 (by first | exact unit_blkI (by first | omega | (simp <;> fail) | (simp; omega)) | exact unit_rowI (by first | omega | (simp; omega)) | exact unit_all (by first | omega | (simp <;> fail) | (simp; omega)) | exact unit_takeI0 (by first | omega | (simp; omega)) | exact unit_takeI (by first | omega | (simp; omega)) | exact unit_agg rfl) rfl rfl)) ?_
      refine WD_cons (.plain rfl (oc_move hC (.tmp rfl) rfl rfl)) ?_
      refine WD_cons (.plain rfl (oc_move hC (.tmp rfl) rfl rfl)) ?_
      refine WD_cons (.plain rfl (oc_move hC (.tmp rfl) rfl rfl)) ?_
      refine WD_cons (.plain rfl (oc_bin hC rfl (.tmp rfl) .cint (by first | exact i64_add (by omega) | rfl) rfl rfl)) ?_
      refine WD_cons (.plain rfl (ox_cutS (u' := .vs 64 (I .u8 ((a.drop (64 * i)).take 64))) hC (.tmp rfl) (.yes (n := 64 * i) (.tmp rfl) (by first | rfl | omega | (simp; omega))) (.yes (n := 64 * i + 64) (.tmp rfl) (by first | rfl | omega | (simp; omega))) idx_22 (by first | exact .row rfl (Nat.mul_one _) | exact .sl rfl | exact .vs (by first | omega | (simp; omega)) | exact .nils) (by first | omega | (simp; omega)) (by first | omega | (simp; omega)) (by rw [cut_vsI]; congr 3 <;> omega) rfl rfl)) ?_
      refine WD_cons (.plain rfl (oc_arr hC (.tmp rfl) idx_31 (by first | exact .row rfl | exact .sl | exact .vs (by first | omega | (simp; omega))) (by decide) (by first | omega | (simp; omega)) rfl rfl)) ?_
      refine WD_cons (.plain rfl (oc_load hC (.tmp rfl) (by first | exact .p rfl | exact .rp) shp_31 (by exact (unit_takeI0 (by simp; omega))) rfl rfl)) ?_
      rw [List.take_of_length_le (show ((a.drop (64 * i)).take 64).length ≤ 64 by simp; omega)]
      refine WD_cons (.plain rfl (oc_call hC (.cons (.tmp rfl) (.cons (.tmp rfl) .nil)) (.cons1 (.free (by first | exact inSL_I _ | simp)) (.cons1 (.free (by first | exact inSL_I _ | simp)) (.same (by first | exact inSL_I _ | simp)))) (block_c _ _ hsl (by simp; omega) hsw (B8_cut ha8 _ _)) (glob_cons rfl rfl (by first | exact inSL_I _ | simp) glob_nil) (by first | exact inSL_I _ | simp) (by first | exact .inl rfl | exact .inr (by simp)) rfl rfl)) ?_
      refine WD_cons (.plain rfl (ox_store hC (.tmp rfl) (.tmp rfl) rfl shp_30 (by first | rfl | exact flat_agI) (by rw [cells_ag, length_I, length_block]) (by first | exact Nat.le_refl _ | decide | (simp <;> fail) | (simp; omega)) (put_allI (by rw [length_block]; exact hsl)) (by first | exact .here | exact .there (.here) rfl | exact .there (.there (.here) rfl) rfl | exact .there (.there (.there (.here) rfl) rfl) rfl | exact .there (.there (.there (.there (.here) rfl) rfl) rfl) rfl | exact .there (.there (.there (.there (.there (.here) rfl) rfl) rfl) rfl) rfl | exact .there (.there (.there (.there (.there (.there (.here) rfl) rfl) rfl) rfl) rfl) rfl | exact .there (.there (.there (.there (.there (.there (.there (.here) rfl) rfl) rfl) rfl) rfl) rfl) rfl | exact .there (.there (.there (.there (.there (.there (.there (.there (.here) rfl) rfl) rfl) rfl) rfl) rfl) rfl) rfl | exact .there (.there (.there (.there (.there (.there (.there (.there (.there (.here) rfl) rfl) rfl) rfl) rfl) rfl) rfl) rfl) rfl) rfl)) ?_
      refine WD_nil (by kernel_rfl) ?_
      refine W_region ?_
      refine WL_cons hC.fn (.plain rfl (oc_move hC (.tmp rfl) rfl rfl)) ?_
      refine WL_cons hC.fn (.plain rfl (oc_bin hC rfl (.tmp rfl) .cint (by first | exact i64_add (by omega) | rfl) rfl rfl)) ?_
      refine WL_cons hC.fn (.plain rfl (oc_assign hC (.tmp rfl) rfl rfl)) ?_
      refine WL_nil ?_
      exact ⟨(i + 1), (by omega), (weak (fun k => k) (.cons rfl (by first | exact ren_agI | exact ren_vsI | exact ren_free _ _ (by first | exact inSL_I _ | simp)) (by first | exact inSL_I _ | simp) (.cons rfl (by first | exact ren_agI | exact ren_vsI | exact ren_free _ _ (by first | exact inSL_I _ | simp)) (by first | exact inSL_I _ | simp) (.cons rfl (by first | rfl | simp) (by show _ < _; decide) (.cons rfl (congrArg (AV.i _) (by omega)) trivial (.cons rfl (by first | exact ren_agI | exact ren_vsI | exact ren_free _ _ (by first | exact inSL_I _ | simp)) (by first | exact inSL_I _ | simp) .nil))))) (.cons rfl (renBlk sumAt_succ) rfl (by first | exact inSL_I _ | simp) .nil) rfl rfl rfl), (by omega)⟩
    ·
      replace hc := lss_f hc
      obtain rfl : i = na / 64 := by omega
      refine W_exit ?_
      refine W_seq ?_
      refine W_region ?_
      refine WL_cons hC.fn (.plain rfl (ox_litRI (k := .u8) (ws := []) hC .nil Tryd.underlying22 cells_5 zero_5 rfl (by decide) rfl rfl (by first | rfl | simp) rfl rfl rfl)) ?_
      refine WL_cons hC.fn (.plain rfl (oc_move hC (.tmp rfl) rfl rfl)) ?_
      refine WL_cons hC.fn (.plain rfl (ox_append (n' := nb) (cs' := I .u8 b) hC (.tmp rfl) (.tmp rfl) (by first | exact .row rfl rfl (by first | exact .here rfl | exact .there (.here rfl) rfl | exact .there (.there (.here rfl) rfl) rfl | exact .there (.there (.there (.here rfl) rfl) rfl) rfl | exact .there (.there (.there (.there (.here rfl) rfl) rfl) rfl) rfl | exact .there (.there (.there (.there (.there (.here rfl) rfl) rfl) rfl) rfl) rfl | exact .there (.there (.there (.there (.there (.there (.here rfl) rfl) rfl) rfl) rfl) rfl) rfl | exact .there (.there (.there (.there (.there (.there (.there (.here rfl) rfl) rfl) rfl) rfl) rfl) rfl) rfl | exact .there (.there (.there (.there (.there (.there (.there (.there (.here rfl) rfl) rfl) rfl) rfl) rfl) rfl) rfl) rfl | exact .there (.there (.there (.there (.there (.there (.there (.there (.there (.here rfl) rfl) rfl) rfl) rfl) rfl) rfl) rfl) rfl) rfl) | exact .nils) (by first | exact .row rfl | exact .vs | exact .sl rfl | exact .nils) (by first | exact hro_nil | exact hro_one rfl) Tryd.underlying22 cells_5 bytes_5 zero_5 rfl (by decide) (by rw [length_I]; omega) (by first | rfl | exact one_takeI) (Nat.zero_add _) ((app_I (us := []) hb).trans rfl) (by simp only [maxLen]; omega) (by omega) rfl rfl)) ?_
      refine WL_cons hC.fn (.plain rfl (oc_move hC (.tmp rfl) rfl rfl)) ?_
      refine WL_cons hC.fn (.plain rfl (ox_len hC (.tmp rfl) (by first | exact .row rfl | exact .vs | exact .sl rfl | exact .nils) Tryd.underlying22 rfl rfl rfl)) ?_
      refine WL_cons hC.fn (.plain rfl (oc_move hC (.tmp rfl) rfl rfl)) ?_
      refine WL_cons hC.fn (.plain rfl (ox_len hC (.tmp rfl) (by first | exact .row rfl | exact .vs | exact .sl rfl | exact .nils) Tryd.underlying22 rfl rfl rfl)) ?_
      refine WL_cons hC.fn (.plain rfl (oc_bin hC rfl (.tmp rfl) (.tmp rfl) (r := ((na + nb : Nat) : Int)) (nadd (by omega)) rfl rfl)) ?_
      refine WL_cons hC.fn (.plain rfl (oc_callN hC (.cons (.tmp rfl) .nil) (.cons1 (.free (by first | exact inSL_I _ | simp)) (.same (by first | exact inSL_I _ | simp))) (pad_c _ (by omega)) glob_nil (by first | exact inSL_I _ | simp) rfl (by first | exact .inl rfl | exact .inr ⟨by simp, novsL_I _⟩ | exact .inr ⟨by simp, by simp⟩) rfl rfl)) ?_
      refine WL_cons hC.fn (.plain rfl (ox_append (n' := 64 * (nblk (na + nb) - na / 64)) (cs' := I .u8 (b ++ padM (na + nb))) hC (.tmp rfl) (.tmp rfl) (by first | exact .row rfl rfl (by first | exact .here rfl | exact .there (.here rfl) rfl | exact .there (.there (.here rfl) rfl) rfl | exact .there (.there (.there (.here rfl) rfl) rfl) rfl | exact .there (.there (.there (.there (.here rfl) rfl) rfl) rfl) rfl | exact .there (.there (.there (.there (.there (.here rfl) rfl) rfl) rfl) rfl) rfl | exact .there (.there (.there (.there (.there (.there (.here rfl) rfl) rfl) rfl) rfl) rfl) rfl | exact .there (.there (.there (.there (.there (.there (.there (.here rfl) rfl) rfl) rfl) rfl) rfl) rfl) rfl | exact .there (.there (.there (.there (.there (.there (.there (.there (.here rfl) rfl) rfl) rfl) rfl) rfl) rfl) rfl) rfl | exact .there (.there (.there (.there (.there (.there (.there (.there (.there (.here rfl) rfl) rfl) rfl) rfl) rfl) rfl) rfl) rfl) rfl) | exact .nils) (by first | exact .row rfl | exact .vs | exact .sl rfl | exact .nils) (by first | exact hro_nil | exact hro_one rfl) Tryd.underlying22 cells_5 bytes_5 zero_5 rfl (by decide) (by rw [length_I, length_padM]; omega) (by first | rfl | exact one_takeI) (by omega) (app_I (length_padM _)) (by simp only [maxLen]; omega) (by omega) rfl rfl)) ?_
      refine WL_cons hC.fn (.plain rfl (oc_assign hC (.tmp rfl) rfl rfl)) ?_
      refine WL_nil ?_
      refine W_seq ?_
      refine W_seq ?_
      refine W_region ?_
      refine WL_cons hC.fn (.plain rfl (oc_move hC (.tmp rfl) rfl rfl)) ?_
      refine WL_cons hC.fn (.plain rfl (ox_len hC (.tmp rfl) (by first | exact .row rfl | exact .vs | exact .sl rfl | exact .nils) Tryd.underlying22 rfl rfl rfl)) ?_
      refine WL_cons hC.fn (.plain rfl (oc_div hC (.inr rfl) (.tmp rfl) .cint (by first | decide | omega) (r := 0) (by rw [rem_nn (by omega)]; omega) rfl rfl)) ?_
      refine WL_cons hC.fn (.plain rfl (ox_cmp hC rfl (.tmp rfl) .cint (r := false) rfl rfl rfl)) ?_
      refine WL_nil ?_
      refine W_cond rfl (by decide) (fun hc => by cases hc) (fun _ => ?_)
      refine W_skip ?_
      refine W_seq ?_
      refine W_seq ?_
      refine W_region ?_
      refine WL_cons hC.fn (.plain rfl (oc_assign hC .cint rfl rfl)) ?_
      refine WL_nil ?_
      refine W_blk ?_
      refine W_loopW (fun (ζ : Nat) => ⟨5, [(0, .vs na (I .u8 a)), (1, .vs nb (I .u8 b)), (5, .p 0 0), (7, .row 4), (8, .i .i64 (64 * (ζ : Int))), (1000000, .rp (I .u32 tbl))], [(0, .blk 30 (I .u32 (sumAt tbl (paddedM (a ++ b)) start8 (na / 64 + ζ)))), (4, .row 5 1 (64 * (nblk (na + nb) - na / 64)) (I .u8 (b ++ padM (na + nb))))]⟩) (fun ζ => ζ ≤ (nblk (na + nb) - na / 64)) (fun ζ => (nblk (na + nb) - na / 64) - ζ) (0) (Nat.zero_le _) (weak (fun k => k) (.cons rfl (by first | exact ren_agI | exact ren_vsI | exact ren_free _ _ (by first | exact inSL_I _ | simp)) (by first | exact inSL_I _ | simp) (.cons rfl (by first | exact ren_agI | exact ren_vsI | exact ren_free _ _ (by first | exact inSL_I _ | simp)) (by first | exact inSL_I _ | simp) (.cons rfl (by first | rfl | simp) (by show _ < _; decide) (.cons rfl (by first | rfl | simp) (by show _ < _; decide) (.cons rfl rfl trivial (.cons rfl (by first | exact ren_agI | exact ren_vsI | exact ren_free _ _ (by first | exact inSL_I _ | simp)) (by first | exact inSL_I _ | simp) .nil)))))) (.cons rfl (renBlk (by rw [hpm, Nat.add_zero, sumAt_pre (by omega)])) rfl (by first | exact inSL_I _ | simp) (.cons rfl (renRow rfl rfl) rfl (by first | exact inSL_I _ | simp) .nil)) rfl rfl rfl) ?_
      intro j hR
      replace hR : j ≤ (nblk (na + nb) - na / 64) := hR
      first | show W _ _ _ ⟨5, [(0, .vs na (I .u8 a)), (1, .vs nb (I .u8 b)), (5, .p 0 0), (7, .row 4), (8, .i .i64 (64 * (j : Int))), (1000000, .rp (I .u32 tbl))], [(0, .blk 30 (I .u32 (sumAt tbl (paddedM (a ++ b)) start8 (na / 64 + j)))), (4, .row 5 1 (64 * (nblk (na + nb) - na / 64)) (I .u8 (b ++ padM (na + nb))))]⟩ | skip
      have hsl := length_sumAt (ks := tbl) (m := paddedM (a ++ b)) (s := start8) rfl (na / 64 + j)
      have hsw := W32_sumAt (ks := tbl) (m := paddedM (a ++ b)) W32_start8 (na / 64 + j)
      refine W_seq ?_
      refine W_seq ?_
      refine W_region ?_
      refine WL_cons hC.fn (.plain rfl (oc_move hC (.tmp rfl) rfl rfl)) ?_
      refine WL_cons hC.fn (.plain rfl (oc_move hC (.tmp rfl) rfl rfl)) ?_
      refine WL_cons hC.fn (.plain rfl (ox_len hC (.tmp rfl) (by first | exact .row rfl | exact .vs | exact .sl rfl | exact .nils) Tryd.underlying22 rfl rfl rfl)) ?_
      refine WL_cons hC.fn (.plain rfl (ox_cmp hC rfl (.tmp rfl) (.tmp rfl) rfl rfl rfl)) ?_
      refine WL_nil ?_
      refine W_cond rfl (by decide) (fun hc => ?_) (fun hc => ?_)
      ·
        replace hc := lss_t hc
        
        refine W_skip ?_
        refine W_seq ?_
        refine W_blk ?_
        refine W_drawD hC ?_
        refine WD_cons (.plain rfl (oc_load hC (.tmp rfl) (by first | exact .p rfl | exact .rp) shp_30 (by first | exact unit_blkI (by first | omega | (simp <;> fail) | (simp; omega)) | exact unit_rowI (by first | omega | (simp; omega)) | exact unit_all (by first | omega | (simp <;> fail) | (simp; omega)) | exact unit_takeI0 (by first | omega | (simp; omega)) | exact unit_takeI (by first | omega | (simp; omega)) | exact unit_agg rfl) rfl rfl)) ?_
        refine WD_cons (.plain rfl (oc_move hC (.tmp rfl) rfl rfl)) ?_
        refine WD_cons (.plain rfl (oc_move hC (.tmp rfl) rfl rfl)) ?_
        refine WD_cons (.plain rfl (oc_move hC (.tmp rfl) rfl rfl)) ?_
        refine WD_cons (.plain rfl (oc_bin hC rfl (.tmp rfl) .cint (by first | exact i64_add (by omega) | rfl) rfl rfl)) ?_
        refine WD_cons (.plain rfl (ox_cutS (u' := .sl 4 (64 * j) 64) hC (.tmp rfl) (.yes (n := 64 * j) (.tmp rfl) (by first | rfl | omega | (simp; omega))) (.yes (n := 64 * j + 64) (.tmp rfl) (by first | rfl | omega | (simp; omega))) idx_22 (by first | exact .row rfl (Nat.mul_one _) | exact .sl rfl | exact .vs (by first | omega | (simp; omega)) | exact .nils) (by first | omega | (simp; omega)) (by first | omega | (simp; omega)) (by congr 1 <;> omega) rfl rfl)) ?_
        refine WD_cons (.plain rfl (oc_arr hC (.tmp rfl) idx_31 (by first | exact .row rfl | exact .sl | exact .vs (by first | omega | (simp; omega))) (by decide) (by first | omega | (simp; omega)) rfl rfl)) ?_
        refine WD_cons (.plain rfl (oc_load hC (.tmp rfl) (by first | exact .p rfl | exact .rp) shp_31 (by exact (unit_takeI (by omega))) rfl rfl)) ?_
        refine WD_cons (.plain rfl (oc_call hC (.cons (.tmp rfl) (.cons (.tmp rfl) .nil)) (.cons1 (.free (by first | exact inSL_I _ | simp)) (.cons1 (.free (by first | exact inSL_I _ | simp)) (.same (by first | exact inSL_I _ | simp)))) (block_c _ _ hsl (by rw [List.length_take, List.length_drop, hMl]; omega) hsw (B8_cut hM8 _ _)) (glob_cons rfl rfl (by first | exact inSL_I _ | simp) glob_nil) (by first | exact inSL_I _ | simp) (by first | exact .inl rfl | exact .inr (by simp)) rfl rfl)) ?_
        refine WD_cons (.plain rfl (ox_store hC (.tmp rfl) (.tmp rfl) rfl shp_30 (by first | rfl | exact flat_agI) (by rw [cells_ag, length_I, length_block]) (by first | exact Nat.le_refl _ | decide | (simp <;> fail) | (simp; omega)) (put_allI (by rw [length_block]; exact hsl)) (by first | exact .here | exact .there (.here) rfl | exact .there (.there (.here) rfl) rfl | exact .there (.there (.there (.here) rfl) rfl) rfl | exact .there (.there (.there (.there (.here) rfl) rfl) rfl) rfl | exact .there (.there (.there (.there (.there (.here) rfl) rfl) rfl) rfl) rfl | exact .there (.there (.there (.there (.there (.there (.here) rfl) rfl) rfl) rfl) rfl) rfl | exact .there (.there (.there (.there (.there (.there (.there (.here) rfl) rfl) rfl) rfl) rfl) rfl) rfl | exact .there (.there (.there (.there (.there (.there (.there (.there (.here) rfl) rfl) rfl) rfl) rfl) rfl) rfl) rfl | exact .there (.there (.there (.there (.there (.there (.there (.there (.there (.here) rfl) rfl) rfl) rfl) rfl) rfl) rfl) rfl) rfl) rfl)) ?_
        refine WD_nil (by kernel_rfl) ?_
        refine W_region ?_
        refine WL_cons hC.fn (.plain rfl (oc_move hC (.tmp rfl) rfl rfl)) ?_
        refine WL_cons hC.fn (.plain rfl (oc_bin hC rfl (.tmp rfl) .cint (by first | exact i64_add (by omega) | rfl) rfl rfl)) ?_
        refine WL_cons hC.fn (.plain rfl (oc_assign hC (.tmp rfl) rfl rfl)) ?_
        refine WL_nil ?_
        exact ⟨(j + 1), (by omega), (weak (fun k => k) (.cons rfl (by first | exact ren_agI | exact ren_vsI | exact ren_free _ _ (by first | exact inSL_I _ | simp)) (by first | exact inSL_I _ | simp) (.cons rfl (by first | exact ren_agI | exact ren_vsI | exact ren_free _ _ (by first | exact inSL_I _ | simp)) (by first | exact inSL_I _ | simp) (.cons rfl (by first | rfl | simp) (by show _ < _; decide) (.cons rfl (by first | rfl | simp) (by show _ < _; decide) (.cons rfl (congrArg (AV.i _) (by omega)) trivial (.cons rfl (by first | exact ren_agI | exact ren_vsI | exact ren_free _ _ (by first | exact inSL_I _ | simp)) (by first | exact inSL_I _ | simp) .nil)))))) (.cons rfl (renBlk (by rw [hpm, sumAt_on (q := na / 64) (by omega), sumAt_on (q := na / 64) (by omega), sumAt_succ])) rfl (by first | exact inSL_I _ | simp) (.cons rfl (renRow rfl rfl) rfl (by first | exact inSL_I _ | simp) .nil)) rfl rfl rfl), (by omega)⟩
      ·
        replace hc := lss_f hc
        obtain rfl : j = (nblk (na + nb) - na / 64) := by omega
        rw [show na / 64 + (nblk (na + nb) - na / 64) = nblk (na + nb) by omega]
        have hsg := fun (t : Nat) (ht : t < 32) => sha_get (m := a ++ b) ht
        rw [show (a ++ b).length = na + nb by simp; omega] at hsg
        refine W_exit ?_
        refine W_seq ?_
        refine W_region ?_
        refine WL_cons hC.fn (.plain rfl (oc_move hC (.tmp rfl) rfl rfl)) ?_
        refine WL_cons hC.fn (.plain rfl (oc_move hC (.tmp rfl) rfl rfl)) ?_
        refine WL_cons hC.fn (.plain rfl (ox_lit hC (.cons (.tmp rfl) (.cons (.tmp rfl) .nil)) Tryd.underlying42 cells_22 zero_22 rfl (by decide) rfl rfl (by first | rfl | simp) rfl rfl)) ?_
        refine WL_cons hC.fn (.plain rfl (oc_call hC (.cons (.tmp rfl) .nil) (.cons1 (by first | exact .free (by first | exact inSL_I _ | simp) | exact .row rfl rfl (by first | exact inSL_I _ | simp) | exact .nils | exact .sl1 rfl (by first | exact cut_I | rfl) (by first | exact inSL_I _ | simp)) (.same (by first | exact inSL_I _ | simp))) (of_c [(na, a), (nb, b)] 2 rfl (by decide) (by intro p hp; simp only [List.mem_cons, List.not_mem_nil, or_false] at hp; rcases hp with rfl | rfl <;> exact ⟨by assumption, by assumption⟩) (by simp; omega)) (glob_cons rfl rfl (by first | exact inSL_I _ | simp) glob_nil) (by first | exact inSL_I _ | simp) (by first | exact .inl rfl | exact .inr (by simp)) rfl rfl)) ?_
        rw [show (List.map (·.2) [(na, a), (nb, b)]).flatten = a ++ b by simp]
        have hshl := length_sh (a ++ b)
        have hsl := length_sumAt (ks := tbl) (m := paddedM (a ++ b)) (s := start8) rfl (nblk (na + nb))
        have hsw := W32_sumAt (ks := tbl) (m := paddedM (a ++ b)) W32_start8 (nblk (na + nb))
        have hs0 := hsw.get 0
        refine WL_cons hC.fn (.plain rfl (ox_alloc hC zero_24 rfl rfl rfl)) ?_
        refine WL_cons hC.fn (.plain rfl (ox_store hC (.tmp rfl) (.tmp rfl) rfl shp_24 (by first | rfl | exact flat_agI) (by first | exact cells1 rfl | (rw [cells_ag, length_I]; omega) | rfl | (simp <;> fail) | (simp; omega)) (by first | exact Nat.le_refl _ | decide | (simp <;> fail) | (simp; omega)) (by first | exact put_allI (by first | omega | (simp; omega)) | exact put_all (by rw [length_I]; first | omega | (simp; omega)) | exact put_all rfl) (by first | exact .here | exact .there (.here) rfl | exact .there (.there (.here) rfl) rfl | exact .there (.there (.there (.here) rfl) rfl) rfl | exact .there (.there (.there (.there (.here) rfl) rfl) rfl) rfl | exact .there (.there (.there (.there (.there (.here) rfl) rfl) rfl) rfl) rfl | exact .there (.there (.there (.there (.there (.there (.here) rfl) rfl) rfl) rfl) rfl) rfl | exact .there (.there (.there (.there (.there (.there (.there (.here) rfl) rfl) rfl) rfl) rfl) rfl) rfl | exact .there (.there (.there (.there (.there (.there (.there (.there (.here) rfl) rfl) rfl) rfl) rfl) rfl) rfl) rfl | exact .there (.there (.there (.there (.there (.there (.there (.there (.there (.here) rfl) rfl) rfl) rfl) rfl) rfl) rfl) rfl) rfl) rfl)) ?_
        refine WL_nil ?_
        refine W_seq ?_
        refine W_region ?_
        refine WL_cons hC.fn (.plain rfl (ox_indexA hC (j := 0) (.tmp rfl) .cint idx_24 rfl (by first | omega | (simp; omega)) (by first | exact Nat.mul_one _ | rfl) (by first | exact .p (Nat.zero_add _) | exact .p rfl | exact .rp (by first | omega | (simp; omega))) rfl rfl)) ?_
        refine WL_cons hC.fn (.plain rfl (oc_load hC (.tmp rfl) (by first | exact .p rfl | exact .rp) shp_5 (by exact (unit_I (by rw [hshl]; decide))) rfl rfl)) ?_
        refine WL_cons hC.fn (.plain rfl (ox_indexA hC (j := 0) (.tmp rfl) .cint idx_30 rfl (by first | omega | (simp; omega)) (by first | exact Nat.mul_one _ | rfl) (by first | exact .p (Nat.zero_add _) | exact .p rfl | exact .rp (by first | omega | (simp; omega))) rfl rfl)) ?_
        refine WL_cons hC.fn (.plain rfl (oc_load hC (.tmp rfl) (by first | exact .p rfl | exact .rp) shp_29 (by exact (unit_I (by rw [hsl]; decide))) rfl rfl)) ?_
        refine WL_cons hC.fn (.plain rfl (oc_shift hC (.inr rfl) (.tmp rfl) .cint (by first | decide | omega) (shr_n (n := 24) rfl (by decide)) rfl rfl)) ?_
        refine WL_cons hC.fn (.plain rfl (oc_conv hC (.tmp rfl) rfl Tryd.underlying5 (r := outB (sumAt tbl (paddedM (a ++ b)) start8 (nblk (na + nb))) 0) (by rw [u8_wrap]; unfold outB; rfl) rfl rfl)) ?_
        refine WL_cons hC.fn (.plain rfl (ox_cmp hC rfl (.tmp rfl) (.tmp rfl) (r := true) (by rw [hsg 0 (by decide)]; simp [cmpI]) rfl rfl)) ?_
        refine WL_cons hC.fn (.plain rfl (oc_move hC (.tmp rfl) rfl rfl)) ?_
        refine WL_cons hC.fn (.yes rfl rfl (by decide) rfl (ox_indexA hC (j := 31) (.tmp rfl) .cint idx_24 rfl (by first | omega | (simp; omega)) (by first | exact Nat.mul_one _ | rfl) (by first | exact .p (Nat.zero_add _) | exact .p rfl | exact .rp (by first | omega | (simp; omega))) rfl rfl)) ?_
        refine WL_cons hC.fn (.yes rfl rfl (by decide) rfl (oc_load hC (.tmp rfl) (by first | exact .p rfl | exact .rp) shp_5 (by exact (unit_I (by rw [hshl]; decide))) rfl rfl)) ?_
        refine WL_cons hC.fn (.yes rfl rfl (by decide) rfl (ox_indexA hC (j := 7) (.tmp rfl) .cint idx_30 rfl (by first | omega | (simp; omega)) (by first | exact Nat.mul_one _ | rfl) (by first | exact .p (Nat.zero_add _) | exact .p rfl | exact .rp (by first | omega | (simp; omega))) rfl rfl)) ?_
        refine WL_cons hC.fn (.yes rfl rfl (by decide) rfl (oc_load hC (.tmp rfl) (by first | exact .p rfl | exact .rp) shp_29 (by exact (unit_I (by rw [hsl]; decide))) rfl rfl)) ?_
        refine WL_cons hC.fn (.yes rfl rfl (by decide) rfl (oc_conv hC (.tmp rfl) rfl Tryd.underlying5 (r := outB (sumAt tbl (paddedM (a ++ b)) start8 (nblk (na + nb))) 31) (by rw [u8_wrap]; unfold outB; simp) rfl rfl)) ?_
        refine WL_cons hC.fn (.yes rfl rfl (by decide) rfl (ox_cmp hC rfl (.tmp rfl) (.tmp rfl) (r := true) (by rw [hsg 31 (by decide)]; simp [cmpI]) rfl rfl)) ?_
        refine WL_cons hC.fn (.plain rfl (ox_pick hC (.tmp rfl) (.tmp rfl) .cbool (by first | exact pick_t | exact pick_f | rfl) rfl rfl)) ?_
        refine WL_cons hC.fn (.plain rfl (oc_move hC (.tmp rfl) rfl rfl)) ?_
        refine WL_cons hC.fn (.yes rfl rfl (by decide) rfl (ox_indexA hC (j := 15) (.tmp rfl) .cint idx_24 rfl (by first | omega | (simp; omega)) (by first | exact Nat.mul_one _ | rfl) (by first | exact .p (Nat.zero_add _) | exact .p rfl | exact .rp (by first | omega | (simp; omega))) rfl rfl)) ?_
        refine WL_cons hC.fn (.yes rfl rfl (by decide) rfl (oc_load hC (.tmp rfl) (by first | exact .p rfl | exact .rp) shp_5 (by exact (unit_I (by rw [hshl]; decide))) rfl rfl)) ?_
        refine WL_cons hC.fn (.yes rfl rfl (by decide) rfl (ox_indexA hC (j := 3) (.tmp rfl) .cint idx_30 rfl (by first | omega | (simp; omega)) (by first | exact Nat.mul_one _ | rfl) (by first | exact .p (Nat.zero_add _) | exact .p rfl | exact .rp (by first | omega | (simp; omega))) rfl rfl)) ?_
        refine WL_cons hC.fn (.yes rfl rfl (by decide) rfl (oc_load hC (.tmp rfl) (by first | exact .p rfl | exact .rp) shp_29 (by exact (unit_I (by rw [hsl]; decide))) rfl rfl)) ?_
        refine WL_cons hC.fn (.yes rfl rfl (by decide) rfl (oc_conv hC (.tmp rfl) rfl Tryd.underlying5 (r := outB (sumAt tbl (paddedM (a ++ b)) start8 (nblk (na + nb))) 15) (by rw [u8_wrap]; unfold outB; simp) rfl rfl)) ?_
        refine WL_cons hC.fn (.yes rfl rfl (by decide) rfl (ox_cmp hC rfl (.tmp rfl) (.tmp rfl) (r := true) (by rw [hsg 15 (by decide)]; simp [cmpI]) rfl rfl)) ?_
        refine WL_cons hC.fn (.plain rfl (ox_pick hC (.tmp rfl) (.tmp rfl) .cbool (by first | exact pick_t | exact pick_f | rfl) rfl rfl)) ?_
        refine WL_cons hC.fn (.plain rfl (oc_move hC (.tmp rfl) rfl rfl)) ?_
        refine WL_cons hC.fn (.yes rfl rfl (by decide) rfl (oc_call hC .nil (.same (by first | exact inSL_I _ | simp)) (awake03_c) (glob_cons rfl rfl (by first | exact inSL_I _ | simp) glob_nil) (by first | exact inSL_I _ | simp) (by first | exact .inl rfl | exact .inr (by simp)) rfl rfl)) ?_
        refine WL_cons hC.fn (.plain rfl (ox_pick hC (.tmp rfl) (.tmp rfl) .cbool (by first | exact pick_t | exact pick_f | rfl) rfl rfl)) ?_
        refine WL_cons hC.fn (.plain rfl (oc_assign hC (.tmp rfl) rfl rfl)) ?_
        refine WL_nil ?_
        refine W_ret ?_
        exact fin0 (.cons (.tmp rfl) .nil) rfl trivial
end Go.Proofs.YtjfohjfiaohfdaaDoor
