/- Own work, printed by a program of this claim: walks through functions of the program. -/
import Derived.Test.YtnhmnolmfhcakaaDoorW3
import Derived.Test.YtnhmnolmfhcakaaDoorProg
import Derived.KernelRfl
set_option linter.unusedSimpArgs false
set_option linter.unusedVariables false
namespace Go.Proofs.YtnhmnolmfhcakaaDoor
open Go.Sk Go.RowKit
attribute [local simp] AV.inSL AV.inS inSL_I Blk.inS Blk.cs AV.novs AV.novsL novsL_I AV.ren AV.cells AV.one lk tuAV
theorem eg_24 : Tryd.prog.eqGuardType Tryd.prog.depth 24 = false := by kernel_rfl
theorem kt_24 : Tryd.prog.keyTypeAt 8 24 = true := by kernel_rfl
theorem sg_24 : shp Tryd.prog 24 = some (true, Tryd.prog.cellsOf 24) := by kernel_rfl
theorem sh_24 : shOf Tryd.prog 8 24 = some (.nums 32 .u8) := by kernel_rfl

set_option maxRecDepth 20000 in
set_option maxHeartbeats 4000000 in
theorem awake04_c  : FnC Tryd.prog 10 [(1000000, .rp (I .u32 tbl))] [] [] [] (.b true) := by
  refine FnC.intro (N0 := 0) (T := 40) (E := [(1000000, .rp (I .u32 tbl))]) Tryd.func10 rfl (by decide) mix rfl rfl rfl (by simp) rfl trivial (by simp) (by intro S _ _ h; simp) (fun F n0 X w ρ hC => ?_)
  refine W_seq ?_
  refine W_region ?_
  refine WL_cons hC.fn (.plain rfl (oc_assign hC .cbool rfl rfl)) ?_
  refine WL_nil ?_
  refine W_seq ?_
  refine W_region ?_
  refine WL_cons hC.fn (.plain rfl (ox_litRI (k := .u8) (ws := [74, 101, 102, 101]) hC (.cons .cint (.cons .cint (.cons .cint (.cons .cint .nil)))) Tryd.underlying22 cells_5 zero_5 rfl (by decide) rfl rfl (by first | rfl | simp) rfl rfl rfl)) ?_
  refine WL_cons hC.fn (.plain rfl (oc_same hC (.tmp rfl) rfl (by decide) Tryd.underlying22 Tryd.underlying5 (by first | exact .here | exact .there (.here) rfl | exact .there (.there (.here) rfl) rfl | exact .there (.there (.there (.here) rfl) rfl) rfl | exact .there (.there (.there (.there (.here) rfl) rfl) rfl) rfl | exact .there (.there (.there (.there (.there (.here) rfl) rfl) rfl) rfl) rfl | exact .there (.there (.there (.there (.there (.there (.here) rfl) rfl) rfl) rfl) rfl) rfl | exact .there (.there (.there (.there (.there (.there (.there (.here) rfl) rfl) rfl) rfl) rfl) rfl) rfl | exact .there (.there (.there (.there (.there (.there (.there (.there (.here) rfl) rfl) rfl) rfl) rfl) rfl) rfl) rfl | exact .there (.there (.there (.there (.there (.there (.there (.there (.there (.here) rfl) rfl) rfl) rfl) rfl) rfl) rfl) rfl) rfl) rfl rfl)) ?_
  refine WL_cons hC.fn (.plain rfl (ox_litRI (k := .u8) (ws := [119, 104, 97, 116, 32, 100, 111, 32, 121, 97, 32, 119, 97, 110, 116, 32]) hC (.cons .cint (.cons .cint (.cons .cint (.cons .cint (.cons .cint (.cons .cint (.cons .cint (.cons .cint (.cons .cint (.cons .cint (.cons .cint (.cons .cint (.cons .cint (.cons .cint (.cons .cint (.cons .cint .nil)))))))))))))))) Tryd.underlying22 cells_5 zero_5 rfl (by decide) rfl rfl (by first | rfl | simp) rfl rfl rfl)) ?_
  refine WL_cons hC.fn (.plain rfl (oc_same hC (.tmp rfl) rfl (by decide) Tryd.underlying22 Tryd.underlying5 (by first | exact .here | exact .there (.here) rfl | exact .there (.there (.here) rfl) rfl | exact .there (.there (.there (.here) rfl) rfl) rfl | exact .there (.there (.there (.there (.here) rfl) rfl) rfl) rfl | exact .there (.there (.there (.there (.there (.here) rfl) rfl) rfl) rfl) rfl | exact .there (.there (.there (.there (.there (.there (.here) rfl) rfl) rfl) rfl) rfl) rfl | exact .there (.there (.there (.there (.there (.there (.there (.here) rfl) rfl) rfl) rfl) rfl) rfl) rfl | exact .there (.there (.there (.there (.there (.there (.there (.there (.here) rfl) rfl) rfl) rfl) rfl) rfl) rfl) rfl | exact .there (.there (.there (.there (.there (.there (.there (.there (.there (.here) rfl) rfl) rfl) rfl) rfl) rfl) rfl) rfl) rfl) rfl rfl)) ?_
  refine WL_cons hC.fn (.plain rfl (ox_litRI (k := .u8) (ws := [102, 111, 114, 32, 110, 111, 116, 104, 105, 110, 103, 63]) hC (.cons .cint (.cons .cint (.cons .cint (.cons .cint (.cons .cint (.cons .cint (.cons .cint (.cons .cint (.cons .cint (.cons .cint (.cons .cint (.cons .cint .nil)))))))))))) Tryd.underlying22 cells_5 zero_5 rfl (by decide) rfl rfl (by first | rfl | simp) rfl rfl rfl)) ?_
  refine WL_cons hC.fn (.plain rfl (oc_same hC (.tmp rfl) rfl (by decide) Tryd.underlying22 Tryd.underlying5 (by first | exact .here | exact .there (.here) rfl | exact .there (.there (.here) rfl) rfl | exact .there (.there (.there (.here) rfl) rfl) rfl | exact .there (.there (.there (.there (.here) rfl) rfl) rfl) rfl | exact .there (.there (.there (.there (.there (.here) rfl) rfl) rfl) rfl) rfl | exact .there (.there (.there (.there (.there (.there (.here) rfl) rfl) rfl) rfl) rfl) rfl | exact .there (.there (.there (.there (.there (.there (.there (.here) rfl) rfl) rfl) rfl) rfl) rfl) rfl | exact .there (.there (.there (.there (.there (.there (.there (.there (.here) rfl) rfl) rfl) rfl) rfl) rfl) rfl) rfl | exact .there (.there (.there (.there (.there (.there (.there (.there (.there (.here) rfl) rfl) rfl) rfl) rfl) rfl) rfl) rfl) rfl) rfl rfl)) ?_
  refine WL_cons hC.fn (.plain rfl (ox_lit hC (.cons (.tmp rfl) (.cons (.tmp rfl) .nil)) Tryd.underlying33 cells_22 zero_22 rfl (by decide) rfl rfl (by first | rfl | simp) rfl rfl)) ?_
  refine WL_cons hC.fn (.plain rfl (oc_call hC (.cons (.tmp rfl) (.cons (.tmp rfl) .nil)) (.row rfl (.same (inSL_I _)) (.vs (.row rfl (.same (inSL_I _)) (.row rfl (.same (inSL_I _)) (.same trivial))) (.same trivial))) (code_c 4 [74, 101, 102, 101] [(16, [119, 104, 97, 116, 32, 100, 111, 32, 121, 97, 32, 119, 97, 110, 116, 32]), (12, [102, 111, 114, 32, 110, 111, 116, 104, 105, 110, 103, 63])] 2 rfl (by unfold B8; decide) (by decide) rfl (by decide) (by intro p hp; simp only [List.mem_cons, List.not_mem_nil, or_false] at hp; rcases hp with rfl | rfl; exact ⟨rfl, (by unfold B8; decide)⟩; exact ⟨rfl, (by unfold B8; decide)⟩) (by decide)) (glob_cons rfl rfl (by first | exact inSL_I _ | simp) glob_nil) (by first | exact inSL_I _ | simp) (by first | exact .inl rfl | exact .inr (by simp)) rfl rfl)) ?_
  rw [show (([(16, [119, 104, 97, 116, 32, 100, 111, 32, 121, 97, 32, 119, 97, 110, 116, 32]), (12, [102, 111, 114, 32, 110, 111, 116, 104, 105, 110, 103, 63])] : List (Nat × List Int)).map (·.2)).flatten = [119, 104, 97, 116, 32, 100, 111, 32, 121, 97, 32, 119, 97, 110, 116, 32] ++ [102, 111, 114, 32, 110, 111, 116, 104, 105, 110, 103, 63] by simp]
  rw [code_jefe]
  refine WL_cons hC.fn (.plain rfl (ox_alloc hC zero_24 rfl rfl rfl)) ?_
  refine WL_cons hC.fn (.plain rfl (ox_store hC (.tmp rfl) (.tmp rfl) rfl shp_24 (by first | rfl | exact flat_agI) (by first | exact cells1 rfl | (rw [cells_ag, length_I]; omega) | rfl | (simp <;> fail) | (simp; omega)) (by first | exact Nat.le_refl _ | decide | (simp <;> fail) | (simp; omega)) (by first | exact put_allI (by first | omega | (simp; omega)) | exact put_all (by rw [length_I]; first | omega | (simp; omega)) | exact put_all rfl) (by first | exact .here | exact .there (.here) rfl | exact .there (.there (.here) rfl) rfl | exact .there (.there (.there (.here) rfl) rfl) rfl | exact .there (.there (.there (.there (.here) rfl) rfl) rfl) rfl | exact .there (.there (.there (.there (.there (.here) rfl) rfl) rfl) rfl) rfl | exact .there (.there (.there (.there (.there (.there (.here) rfl) rfl) rfl) rfl) rfl) rfl | exact .there (.there (.there (.there (.there (.there (.there (.here) rfl) rfl) rfl) rfl) rfl) rfl) rfl | exact .there (.there (.there (.there (.there (.there (.there (.there (.here) rfl) rfl) rfl) rfl) rfl) rfl) rfl) rfl | exact .there (.there (.there (.there (.there (.there (.there (.there (.there (.here) rfl) rfl) rfl) rfl) rfl) rfl) rfl) rfl) rfl) rfl)) ?_
  refine WL_nil ?_
  refine W_seq ?_
  refine W_region ?_
  refine WL_cons hC.fn (.plain rfl (ox_indexA hC (j := 0) (.tmp rfl) .cint idx_24 rfl (by first | omega | (simp; omega)) (by first | exact Nat.mul_one _ | rfl) (by first | exact .p (Nat.zero_add _) | exact .p rfl | exact .rp (by first | omega | (simp; omega))) rfl rfl)) ?_
  refine WL_cons hC.fn (.plain rfl (oc_load hC (.tmp rfl) (by first | exact .p rfl | exact .rp) shp_5 (by first | exact unit_one rfl | exact unit_I (by first | omega | (simp; omega)) | exact unit_c rfl (by decide)) rfl rfl)) ?_
  refine WL_cons hC.fn (.plain rfl (ox_cmp hC rfl (.tmp rfl) .cint (r := true) (by decide) rfl rfl)) ?_
  refine WL_cons hC.fn (.plain rfl (oc_move hC (.tmp rfl) rfl rfl)) ?_
  refine WL_cons hC.fn (.yes rfl rfl (by decide) rfl (ox_indexA hC (j := 1) (.tmp rfl) .cint idx_24 rfl (by first | omega | (simp; omega)) (by first | exact Nat.mul_one _ | rfl) (by first | exact .p (Nat.zero_add _) | exact .p rfl | exact .rp (by first | omega | (simp; omega))) rfl rfl)) ?_
  refine WL_cons hC.fn (.yes rfl rfl (by decide) rfl (oc_load hC (.tmp rfl) (by first | exact .p rfl | exact .rp) shp_5 (by first | exact unit_one rfl | exact unit_I (by first | omega | (simp; omega)) | exact unit_c rfl (by decide)) rfl rfl)) ?_
  refine WL_cons hC.fn (.yes rfl rfl (by decide) rfl (ox_cmp hC rfl (.tmp rfl) .cint (r := true) (by decide) rfl rfl)) ?_
  refine WL_cons hC.fn (.plain rfl (ox_pick hC (.tmp rfl) (.tmp rfl) .cbool (by first | exact pick_t | exact pick_f | rfl) rfl rfl)) ?_
  refine WL_cons hC.fn (.plain rfl (oc_move hC (.tmp rfl) rfl rfl)) ?_
  refine WL_cons hC.fn (.yes rfl rfl (by decide) rfl (ox_indexA hC (j := 2) (.tmp rfl) .cint idx_24 rfl (by first | omega | (simp; omega)) (by first | exact Nat.mul_one _ | rfl) (by first | exact .p (Nat.zero_add _) | exact .p rfl | exact .rp (by first | omega | (simp; omega))) rfl rfl)) ?_
  refine WL_cons hC.fn (.yes rfl rfl (by decide) rfl (oc_load hC (.tmp rfl) (by first | exact .p rfl | exact .rp) shp_5 (by first | exact unit_one rfl | exact unit_I (by first | omega | (simp; omega)) | exact unit_c rfl (by decide)) rfl rfl)) ?_
  refine WL_cons hC.fn (.yes rfl rfl (by decide) rfl (ox_cmp hC rfl (.tmp rfl) .cint (r := true) (by decide) rfl rfl)) ?_
  refine WL_cons hC.fn (.plain rfl (ox_pick hC (.tmp rfl) (.tmp rfl) .cbool (by first | exact pick_t | exact pick_f | rfl) rfl rfl)) ?_
  refine WL_cons hC.fn (.plain rfl (oc_move hC (.tmp rfl) rfl rfl)) ?_
  refine WL_cons hC.fn (.yes rfl rfl (by decide) rfl (ox_indexA hC (j := 3) (.tmp rfl) .cint idx_24 rfl (by first | omega | (simp; omega)) (by first | exact Nat.mul_one _ | rfl) (by first | exact .p (Nat.zero_add _) | exact .p rfl | exact .rp (by first | omega | (simp; omega))) rfl rfl)) ?_
  refine WL_cons hC.fn (.yes rfl rfl (by decide) rfl (oc_load hC (.tmp rfl) (by first | exact .p rfl | exact .rp) shp_5 (by first | exact unit_one rfl | exact unit_I (by first | omega | (simp; omega)) | exact unit_c rfl (by decide)) rfl rfl)) ?_
  refine WL_cons hC.fn (.yes rfl rfl (by decide) rfl (ox_cmp hC rfl (.tmp rfl) .cint (r := true) (by decide) rfl rfl)) ?_
  refine WL_cons hC.fn (.plain rfl (ox_pick hC (.tmp rfl) (.tmp rfl) .cbool (by first | exact pick_t | exact pick_f | rfl) rfl rfl)) ?_
  refine WL_cons hC.fn (.plain rfl (oc_move hC (.tmp rfl) rfl rfl)) ?_
  refine WL_cons hC.fn (.yes rfl rfl (by decide) rfl (oc_callN hC (.cons .cnils (.cons .cnils (.cons .cnils (.cons .cint .nil)))) (.cons1 (by first | exact .free (by first | exact inSL_I _ | simp) | exact .row rfl rfl (by first | exact inSL_I _ | simp) | exact .nils | exact .sl1 rfl (by first | exact cut_I | rfl) (by first | exact inSL_I _ | simp)) (.cons1 (by first | exact .free (by first | exact inSL_I _ | simp) | exact .row rfl rfl (by first | exact inSL_I _ | simp) | exact .nils | exact .sl1 rfl (by first | exact cut_I | rfl) (by first | exact inSL_I _ | simp)) (.cons1 (by first | exact .free (by first | exact inSL_I _ | simp) | exact .row rfl rfl (by first | exact inSL_I _ | simp) | exact .nils | exact .sl1 rfl (by first | exact cut_I | rfl) (by first | exact inSL_I _ | simp)) (.cons1 (.free (by first | exact inSL_I _ | simp)) (.same (by first | exact inSL_I _ | simp)))))) (key_c 0 0 0 33 [] [] [] rfl rfl rfl (by intro x hx; cases hx) (by intro x hx; cases hx) (by intro x hx; cases hx) (by decide) (by decide) (by decide) (by decide)) (glob_cons rfl rfl (by first | exact inSL_I _ | simp) glob_nil) (by first | exact inSL_I _ | simp) rfl (by first | exact .inl rfl | exact .inr ⟨by simp, novsL_I _⟩ | exact .inr ⟨by simp, by simp⟩) rfl rfl)) ?_
  refine WL_cons hC.fn (.yes rfl rfl (by decide) rfl (ox_len hC (.tmp rfl) (by first | exact .row rfl | exact .vs | exact .sl rfl | exact .nils) Tryd.underlying22 rfl rfl rfl)) ?_
  refine WL_cons hC.fn (.yes rfl rfl (by decide) rfl (ox_cmp hC rfl (.tmp rfl) .cint (r := true) (by decide) rfl rfl)) ?_
  refine WL_cons hC.fn (.plain rfl (ox_pick hC (.tmp rfl) (.tmp rfl) .cbool (by first | exact pick_t | exact pick_f | rfl) rfl rfl)) ?_
  refine WL_cons hC.fn (.plain rfl (oc_move hC (.tmp rfl) rfl rfl)) ?_
  refine WL_cons hC.fn (.yes rfl rfl (by decide) rfl (ox_litRI (k := .u8) (ws := [97]) hC (.cons .cint .nil) Tryd.underlying22 cells_5 zero_5 rfl (by decide) rfl rfl (by first | rfl | simp) rfl rfl rfl)) ?_
  refine WL_cons hC.fn (.yes rfl rfl (by decide) rfl (oc_same hC (.tmp rfl) rfl (by decide) Tryd.underlying22 Tryd.underlying5 (by first | exact .here | exact .there (.here) rfl | exact .there (.there (.here) rfl) rfl | exact .there (.there (.there (.here) rfl) rfl) rfl | exact .there (.there (.there (.there (.here) rfl) rfl) rfl) rfl | exact .there (.there (.there (.there (.there (.here) rfl) rfl) rfl) rfl) rfl | exact .there (.there (.there (.there (.there (.there (.here) rfl) rfl) rfl) rfl) rfl) rfl | exact .there (.there (.there (.there (.there (.there (.there (.here) rfl) rfl) rfl) rfl) rfl) rfl) rfl | exact .there (.there (.there (.there (.there (.there (.there (.there (.here) rfl) rfl) rfl) rfl) rfl) rfl) rfl) rfl | exact .there (.there (.there (.there (.there (.there (.there (.there (.there (.here) rfl) rfl) rfl) rfl) rfl) rfl) rfl) rfl) rfl) rfl rfl)) ?_
  refine WL_cons hC.fn (.yes rfl rfl (by decide) rfl (ox_litRI (k := .u8) (ws := [97]) hC (.cons .cint .nil) Tryd.underlying22 cells_5 zero_5 rfl (by decide) rfl rfl (by first | rfl | simp) rfl rfl rfl)) ?_
  refine WL_cons hC.fn (.yes rfl rfl (by decide) rfl (oc_same hC (.tmp rfl) rfl (by decide) Tryd.underlying22 Tryd.underlying5 (by first | exact .here | exact .there (.here) rfl | exact .there (.there (.here) rfl) rfl | exact .there (.there (.there (.here) rfl) rfl) rfl | exact .there (.there (.there (.there (.here) rfl) rfl) rfl) rfl | exact .there (.there (.there (.there (.there (.here) rfl) rfl) rfl) rfl) rfl | exact .there (.there (.there (.there (.there (.there (.here) rfl) rfl) rfl) rfl) rfl) rfl | exact .there (.there (.there (.there (.there (.there (.there (.here) rfl) rfl) rfl) rfl) rfl) rfl) rfl | exact .there (.there (.there (.there (.there (.there (.there (.there (.here) rfl) rfl) rfl) rfl) rfl) rfl) rfl) rfl | exact .there (.there (.there (.there (.there (.there (.there (.there (.there (.here) rfl) rfl) rfl) rfl) rfl) rfl) rfl) rfl) rfl) rfl rfl)) ?_
  refine WL_cons hC.fn (.yes rfl rfl (by decide) rfl (oc_call hC (.cons (.tmp rfl) (.cons (.tmp rfl) .nil)) (.cons1 (by first | exact .free (by first | exact inSL_I _ | simp) | exact .row rfl rfl (by first | exact inSL_I _ | simp) | exact .nils | exact .sl1 rfl (by first | exact cut_I | rfl) (by first | exact inSL_I _ | simp)) (.cons1 (by first | exact .free (by first | exact inSL_I _ | simp) | exact .row rfl rfl (by first | exact inSL_I _ | simp) | exact .nils | exact .sl1 rfl (by first | exact cut_I | rfl) (by first | exact inSL_I _ | simp)) (.same (by first | exact inSL_I _ | simp)))) (same_c 1 1 [97] [97] rfl rfl (by unfold B8; decide) (by unfold B8; decide) (by decide) (by decide)) glob_nil (by first | exact inSL_I _ | simp) (by first | exact .inl rfl | exact .inr (by simp)) rfl rfl)) ?_
  refine WL_cons hC.fn (.plain rfl (ox_pick hC (.tmp rfl) (.tmp rfl) .cbool (by first | exact pick_t | exact pick_f | rfl) rfl rfl)) ?_
  refine WL_cons hC.fn (.plain rfl (oc_assign hC (.tmp rfl) rfl rfl)) ?_
  refine WL_nil ?_
  refine W_ret ?_
  exact fin0 (.cons (.tmp rfl) .nil) rfl (by first | exact inSL_I _ | simp)
set_option maxRecDepth 20000 in
set_option maxHeartbeats 4000000 in
theorem law_DeriveCodes (n m : Nat) (key b : List Int) (hn : key.length = n) (hm : b.length = m) (hk : B8 key) (hb : B8 b) : FnC Tryd.prog 3 [(1000000, .rp (I .u32 tbl))] [.vs n (I .u8 key), .vs m (I .u8 b)] [] [] (.b true) := by
  have hlc := length_code key b
  refine FnC.intro (N0 := 0) (T := 29) (E := [(0, .vs n (I .u8 key)), (1, .vs m (I .u8 b)), (1000000, .rp (I .u32 tbl))]) Tryd.func3 rfl (by decide) mix rfl rfl rfl (by simp) rfl ⟨(by first | exact inSL_I _ | trivial | simp), (by first | exact inSL_I _ | trivial | simp), trivial⟩ (by simp) (by intro S _ _ h; simp) (fun F n0 X w ρ hC => ?_)
  refine W_seq ?_
  refine W_region ?_
  refine WL_cons hC.fn (.plain rfl (oc_assign hC .cbool rfl rfl)) ?_
  refine WL_nil ?_
  refine W_seq ?_
  refine W_seq ?_
  rcases (show (200 < n) ∨ (n ≤ 200 ∧ 200 < m) ∨ (n ≤ 200 ∧ m ≤ 200) by omega) with h | h | h
  ·
    refine W_region ?_
    refine WL_cons hC.fn (.plain rfl (oc_move hC (.tmp rfl) rfl rfl)) ?_
    refine WL_cons hC.fn (.plain rfl (ox_len hC (.tmp rfl) (by first | exact .row rfl | exact .vs | exact .sl rfl | exact .nils) Tryd.underlying22 rfl rfl rfl)) ?_
    refine WL_cons hC.fn (.plain rfl (ox_cmp hC rfl (.tmp rfl) .cint (r := true) (by simp only [cmpI]; exact decide_eq_true (by omega)) rfl rfl)) ?_
    refine WL_cons hC.fn (.plain rfl (oc_move hC (.tmp rfl) rfl rfl)) ?_
    refine WL_cons hC.fn (.no (s1 := ⟨_, (10, .tu []) :: _, _⟩) rfl rfl (by decide) rfl (by decide) (fun t ht => by cases ht; exact ⟨blt_lt rfl, blt_lt rfl⟩) (fun t => setE_cons _ _ _ _) rfl rfl) ?_
    refine WL_cons hC.fn (.no (s1 := ⟨_, (11, .tu []) :: _, _⟩) rfl rfl (by decide) rfl (by decide) (fun t ht => by cases ht; exact ⟨blt_lt rfl, blt_lt rfl⟩) (fun t => setE_cons _ _ _ _) rfl rfl) ?_
    refine WL_cons hC.fn (.no (s1 := ⟨_, (12, .tu []) :: _, _⟩) rfl rfl (by decide) rfl (by decide) (fun t ht => by cases ht; exact ⟨blt_lt rfl, blt_lt rfl⟩) (fun t => setE_cons _ _ _ _) rfl rfl) ?_
    refine WL_cons hC.fn (.plain rfl (ox_pick hC (.tmp rfl) .cbool (.tmp rfl) (by first | exact pick_t | exact pick_f | rfl) rfl rfl)) ?_
    refine WL_nil ?_
    refine W_cond rfl (by decide) (fun _ => ?_) (fun hc => by cases hc)
    refine W_seq ?_
    refine W_region ?_
    refine WL_cons hC.fn (.plain rfl (oc_call hC .nil (.same (by first | exact inSL_I _ | simp)) (awake04_c) (glob_cons rfl rfl (by first | exact inSL_I _ | simp) glob_nil) (by first | exact inSL_I _ | simp) (by first | exact .inl rfl | exact .inr (by simp)) rfl rfl)) ?_
    refine WL_cons hC.fn (.plain rfl (oc_assign hC (.tmp rfl) rfl rfl)) ?_
    refine WL_nil ?_
    refine W_ret ?_
    exact fin0 (.cons (.tmp rfl) .nil) rfl trivial
  ·
    refine W_region ?_
    refine WL_cons hC.fn (.plain rfl (oc_move hC (.tmp rfl) rfl rfl)) ?_
    refine WL_cons hC.fn (.plain rfl (ox_len hC (.tmp rfl) (by first | exact .row rfl | exact .vs | exact .sl rfl | exact .nils) Tryd.underlying22 rfl rfl rfl)) ?_
    refine WL_cons hC.fn (.plain rfl (ox_cmp hC rfl (.tmp rfl) .cint (r := false) (by simp only [cmpI]; exact decide_eq_false (by omega)) rfl rfl)) ?_
    refine WL_cons hC.fn (.plain rfl (oc_move hC (.tmp rfl) rfl rfl)) ?_
    refine WL_cons hC.fn (.yes rfl rfl (by decide) rfl (oc_move hC (.tmp rfl) rfl rfl)) ?_
    refine WL_cons hC.fn (.yes rfl rfl (by decide) rfl (ox_len hC (.tmp rfl) (by first | exact .row rfl | exact .vs | exact .sl rfl | exact .nils) Tryd.underlying22 rfl rfl rfl)) ?_
    refine WL_cons hC.fn (.yes rfl rfl (by decide) rfl (ox_cmp hC rfl (.tmp rfl) .cint (r := true) (by simp only [cmpI]; exact decide_eq_true (by omega)) rfl rfl)) ?_
    refine WL_cons hC.fn (.plain rfl (ox_pick hC (.tmp rfl) .cbool (.tmp rfl) (by first | exact pick_t | exact pick_f | rfl) rfl rfl)) ?_
    refine WL_nil ?_
    refine W_cond rfl (by decide) (fun _ => ?_) (fun hc => by cases hc)
    refine W_seq ?_
    refine W_region ?_
    refine WL_cons hC.fn (.plain rfl (oc_call hC .nil (.same (by first | exact inSL_I _ | simp)) (awake04_c) (glob_cons rfl rfl (by first | exact inSL_I _ | simp) glob_nil) (by first | exact inSL_I _ | simp) (by first | exact .inl rfl | exact .inr (by simp)) rfl rfl)) ?_
    refine WL_cons hC.fn (.plain rfl (oc_assign hC (.tmp rfl) rfl rfl)) ?_
    refine WL_nil ?_
    refine W_ret ?_
    exact fin0 (.cons (.tmp rfl) .nil) rfl trivial
  ·
    refine W_region ?_
    refine WL_cons hC.fn (.plain rfl (oc_move hC (.tmp rfl) rfl rfl)) ?_
    refine WL_cons hC.fn (.plain rfl (ox_len hC (.tmp rfl) (by first | exact .row rfl | exact .vs | exact .sl rfl | exact .nils) Tryd.underlying22 rfl rfl rfl)) ?_
    refine WL_cons hC.fn (.plain rfl (ox_cmp hC rfl (.tmp rfl) .cint (r := false) (by simp only [cmpI]; exact decide_eq_false (by omega)) rfl rfl)) ?_
    refine WL_cons hC.fn (.plain rfl (oc_move hC (.tmp rfl) rfl rfl)) ?_
    refine WL_cons hC.fn (.yes rfl rfl (by decide) rfl (oc_move hC (.tmp rfl) rfl rfl)) ?_
    refine WL_cons hC.fn (.yes rfl rfl (by decide) rfl (ox_len hC (.tmp rfl) (by first | exact .row rfl | exact .vs | exact .sl rfl | exact .nils) Tryd.underlying22 rfl rfl rfl)) ?_
    refine WL_cons hC.fn (.yes rfl rfl (by decide) rfl (ox_cmp hC rfl (.tmp rfl) .cint (r := false) (by simp only [cmpI]; exact decide_eq_false (by omega)) rfl rfl)) ?_
    refine WL_cons hC.fn (.plain rfl (ox_pick hC (.tmp rfl) .cbool (.tmp rfl) (by first | exact pick_t | exact pick_f | rfl) rfl rfl)) ?_
    refine WL_nil ?_
    refine W_cond rfl (by decide) (fun hc => by cases hc) (fun _ => ?_)
    refine W_skip ?_
    refine W_seq ?_
    refine W_region ?_
    refine WL_cons hC.fn (.plain rfl (oc_move hC (.tmp rfl) rfl rfl)) ?_
    refine WL_cons hC.fn (.plain rfl (oc_move hC (.tmp rfl) rfl rfl)) ?_
    refine WL_cons hC.fn (.plain rfl (ox_lit hC (.cons (.tmp rfl) .nil) Tryd.underlying33 cells_22 zero_22 rfl (by decide) rfl rfl (by first | rfl | simp) rfl rfl)) ?_
    refine WL_cons hC.fn (.plain rfl (oc_call hC (.cons (.tmp rfl) (.cons (.tmp rfl) .nil)) (.cons1 (by first | exact .free (by first | exact inSL_I _ | simp) | exact .row rfl rfl (by first | exact inSL_I _ | simp) | exact .nils | exact .sl1 rfl (by first | exact cut_I | rfl) (by first | exact inSL_I _ | simp)) (.cons1 (by first | exact .free (by first | exact inSL_I _ | simp) | exact .row rfl rfl (by first | exact inSL_I _ | simp) | exact .nils | exact .sl1 rfl (by first | exact cut_I | rfl) (by first | exact inSL_I _ | simp)) (.same (by first | exact inSL_I _ | simp)))) (code_c n key [(m, b)] 1 hn hk (by omega) rfl (by decide) (by intro p hp; simp only [List.mem_cons, List.not_mem_nil, or_false] at hp; subst hp; exact ⟨hm, hb⟩) (by simp; omega)) (glob_cons rfl rfl (by first | exact inSL_I _ | simp) glob_nil) (by first | exact inSL_I _ | simp) (by first | exact .inl rfl | exact .inr (by simp)) rfl rfl)) ?_
    rw [show (([(m, b)] : List (Nat × List Int)).map (·.2)).flatten = b by simp]
    refine WL_cons hC.fn (.plain rfl (ox_alloc hC zero_24 rfl rfl rfl)) ?_
    refine WL_cons hC.fn (.plain rfl (ox_store hC (.tmp rfl) (.tmp rfl) rfl shp_24 (by first | rfl | exact flat_agI) (by rw [cells_ag, length_I, hlc]) (by first | exact Nat.le_refl _ | decide | (simp <;> fail) | (simp; omega)) (put_allI (by rw [hlc]; rfl)) (by first | exact .here | exact .there (.here) rfl | exact .there (.there (.here) rfl) rfl | exact .there (.there (.there (.here) rfl) rfl) rfl | exact .there (.there (.there (.there (.here) rfl) rfl) rfl) rfl | exact .there (.there (.there (.there (.there (.here) rfl) rfl) rfl) rfl) rfl | exact .there (.there (.there (.there (.there (.there (.here) rfl) rfl) rfl) rfl) rfl) rfl | exact .there (.there (.there (.there (.there (.there (.there (.here) rfl) rfl) rfl) rfl) rfl) rfl) rfl | exact .there (.there (.there (.there (.there (.there (.there (.there (.here) rfl) rfl) rfl) rfl) rfl) rfl) rfl) rfl | exact .there (.there (.there (.there (.there (.there (.there (.there (.there (.here) rfl) rfl) rfl) rfl) rfl) rfl) rfl) rfl) rfl) rfl)) ?_
    refine WL_nil ?_
    refine W_seq ?_
    refine W_drawD hC ?_
    refine WD_cons (.plain rfl (ox_cutA hC (.tmp rfl) .no .no idx_24 (by first | omega | (simp; omega)) (by first | omega | (simp; omega)) (by first | exact .p (by first | (simp <;> fail) | rfl) | exact .rp (by first | omega | (simp; omega))) (by first | exact cut_vsI | rfl) rfl rfl)) ?_
    refine WD_cons (.plain rfl (ox_b2s hC (.tmp rfl) (by first | exact .row rfl | exact .vs | exact .sl rfl | exact .nils) (by first | exact take_allI (by first | assumption | rfl | (simp; omega) | omega) | exact take_cutI | exact take_takeI) (by first | assumption | rfl | omega | (simp; omega)) Tryd.underlying22 Tryd.underlying5 Tryd.underlying9 rfl rfl)) ?_
    refine WD_cons (.plain rfl (oc_move hC (.tmp rfl) rfl rfl)) ?_
    refine WD_cons (.plain rfl (oc_move hC (.tmp rfl) rfl rfl)) ?_
    refine WD_cons (.plain rfl (oc_callN hC (.cons (.tmp rfl) (.cons (.tmp rfl) .nil)) (.cons1 (by first | exact .free (by first | exact inSL_I _ | simp) | exact .row rfl rfl (by first | exact inSL_I _ | simp) | exact .nils | exact .sl1 rfl (by first | exact cut_I | rfl) (by first | exact inSL_I _ | simp)) (.cons1 (by first | exact .free (by first | exact inSL_I _ | simp) | exact .row rfl rfl (by first | exact inSL_I _ | simp) | exact .nils | exact .sl1 rfl (by first | exact cut_I | rfl) (by first | exact inSL_I _ | simp)) (.same (by first | exact inSL_I _ | simp)))) (rcode_c _ _ _ _ hn hm hk hb (by omega) (by omega)) glob_nil (by first | exact inSL_I _ | simp) rfl (by first | exact .inl rfl | exact .inr ⟨by simp, novsL_I _⟩ | exact .inr ⟨by simp, by simp⟩) rfl rfl)) ?_
    refine WD_cons (.plain rfl (ox_b2s hC (.tmp rfl) (by first | exact .row rfl | exact .vs | exact .sl rfl | exact .nils) (by first | exact take_allI (by first | assumption | rfl | (simp; omega) | omega) | exact take_cutI | exact take_takeI) (by first | assumption | rfl | omega | (simp; omega)) Tryd.underlying22 Tryd.underlying5 Tryd.underlying9 rfl rfl)) ?_
    refine WD_cons (.plain rfl (ox_eqs hC (.inl rfl) (.tmp rfl) (.tmp rfl) (r := true) (by simp) rfl rfl)) ?_
    refine WD_cons (.plain rfl (oc_move hC (.tmp rfl) rfl rfl)) ?_
    refine WD_cons (.yes rfl rfl (by decide) rfl (oc_call hC .nil (.same (by first | exact inSL_I _ | simp)) (awake04_c) (glob_cons rfl rfl (by first | exact inSL_I _ | simp) glob_nil) (by first | exact inSL_I _ | simp) (by first | exact .inl rfl | exact .inr (by simp)) rfl rfl)) ?_
    refine WD_cons (.plain rfl (ox_pick hC (.tmp rfl) (.tmp rfl) .cbool (by first | exact pick_t | exact pick_f | rfl) rfl rfl)) ?_
    refine WD_cons (.plain rfl (oc_assign hC (.tmp rfl) rfl rfl)) ?_
    refine WD_nil (by kernel_rfl) ?_
    refine W_ret ?_
    exact fin0 (.cons (.tmp rfl) .nil) rfl trivial
set_option maxRecDepth 20000 in
set_option maxHeartbeats 4000000 in
theorem law_DeriveParts (n na nb : Nat) (key a b : List Int) (hn : key.length = n) (ha : a.length = na) (hb : b.length = nb) (hk : B8 key) (ha8 : B8 a) (hb8 : B8 b) : FnC Tryd.prog 4 [(1000000, .rp (I .u32 tbl))] [.vs n (I .u8 key), .vs na (I .u8 a), .vs nb (I .u8 b)] [] [] (.b true) := by
  have hlc := length_code key (a ++ b)
  have hbc := B8_code key (a ++ b)
  refine FnC.intro (N0 := 0) (T := 38) (E := [(0, .vs n (I .u8 key)), (1, .vs na (I .u8 a)), (2, .vs nb (I .u8 b)), (1000000, .rp (I .u32 tbl))]) Tryd.func4 rfl (by decide) mix rfl rfl rfl (by simp) rfl ⟨(by first | exact inSL_I _ | trivial | simp), (by first | exact inSL_I _ | trivial | simp), (by first | exact inSL_I _ | trivial | simp), trivial⟩ (by simp) (by intro S _ _ h; simp) (fun F n0 X w ρ hC => ?_)
  refine W_seq ?_
  refine W_region ?_
  refine WL_cons hC.fn (.plain rfl (oc_assign hC .cbool rfl rfl)) ?_
  refine WL_nil ?_
  refine W_seq ?_
  refine W_seq ?_
  rcases (show (200 < n) ∨ (n ≤ 200 ∧ 200 < na) ∨ (n ≤ 200 ∧ na ≤ 200 ∧ 200 < nb) ∨ (n ≤ 200 ∧ na ≤ 200 ∧ nb ≤ 200) by omega) with h | h | h | h
  ·
    refine W_region ?_
    refine WL_cons hC.fn (.plain rfl (oc_move hC (.tmp rfl) rfl rfl)) ?_
    refine WL_cons hC.fn (.plain rfl (ox_len hC (.tmp rfl) (by first | exact .row rfl | exact .vs | exact .sl rfl | exact .nils) Tryd.underlying22 rfl rfl rfl)) ?_
    refine WL_cons hC.fn (.plain rfl (ox_cmp hC rfl (.tmp rfl) .cint (r := true) (by simp only [cmpI]; exact decide_eq_true (by omega)) rfl rfl)) ?_
    refine WL_cons hC.fn (.plain rfl (oc_move hC (.tmp rfl) rfl rfl)) ?_
    refine WL_cons hC.fn (.no (s1 := ⟨_, (11, .tu []) :: _, _⟩) rfl rfl (by decide) rfl (by decide) (fun t ht => by cases ht; exact ⟨blt_lt rfl, blt_lt rfl⟩) (fun t => setE_cons _ _ _ _) rfl rfl) ?_
    refine WL_cons hC.fn (.no (s1 := ⟨_, (12, .tu []) :: _, _⟩) rfl rfl (by decide) rfl (by decide) (fun t ht => by cases ht; exact ⟨blt_lt rfl, blt_lt rfl⟩) (fun t => setE_cons _ _ _ _) rfl rfl) ?_
    refine WL_cons hC.fn (.no (s1 := ⟨_, (13, .tu []) :: _, _⟩) rfl rfl (by decide) rfl (by decide) (fun t ht => by cases ht; exact ⟨blt_lt rfl, blt_lt rfl⟩) (fun t => setE_cons _ _ _ _) rfl rfl) ?_
    refine WL_cons hC.fn (.plain rfl (ox_pick hC (.tmp rfl) .cbool (.tmp rfl) (by first | exact pick_t | exact pick_f | rfl) rfl rfl)) ?_
    refine WL_cons hC.fn (.plain rfl (oc_move hC (.tmp rfl) rfl rfl)) ?_
    refine WL_cons hC.fn (.no (s1 := ⟨_, (16, .tu []) :: _, _⟩) rfl rfl (by decide) rfl (by decide) (fun t ht => by cases ht; exact ⟨blt_lt rfl, blt_lt rfl⟩) (fun t => setE_cons _ _ _ _) rfl rfl) ?_
    refine WL_cons hC.fn (.no (s1 := ⟨_, (17, .tu []) :: _, _⟩) rfl rfl (by decide) rfl (by decide) (fun t ht => by cases ht; exact ⟨blt_lt rfl, blt_lt rfl⟩) (fun t => setE_cons _ _ _ _) rfl rfl) ?_
    refine WL_cons hC.fn (.no (s1 := ⟨_, (18, .tu []) :: _, _⟩) rfl rfl (by decide) rfl (by decide) (fun t ht => by cases ht; exact ⟨blt_lt rfl, blt_lt rfl⟩) (fun t => setE_cons _ _ _ _) rfl rfl) ?_
    refine WL_cons hC.fn (.plain rfl (ox_pick hC (.tmp rfl) .cbool (.tmp rfl) (by first | exact pick_t | exact pick_f | rfl) rfl rfl)) ?_
    refine WL_nil ?_
    refine W_cond rfl (by decide) (fun _ => ?_) (fun hc => by cases hc)
    refine W_seq ?_
    refine W_region ?_
    refine WL_cons hC.fn (.plain rfl (oc_call hC .nil (.same (by first | exact inSL_I _ | simp)) (awake04_c) (glob_cons rfl rfl (by first | exact inSL_I _ | simp) glob_nil) (by first | exact inSL_I _ | simp) (by first | exact .inl rfl | exact .inr (by simp)) rfl rfl)) ?_
    refine WL_cons hC.fn (.plain rfl (oc_assign hC (.tmp rfl) rfl rfl)) ?_
    refine WL_nil ?_
    refine W_ret ?_
    exact fin0 (.cons (.tmp rfl) .nil) rfl trivial
  ·
    refine W_region ?_
    refine WL_cons hC.fn (.plain rfl (oc_move hC (.tmp rfl) rfl rfl)) ?_
    refine WL_cons hC.fn (.plain rfl (ox_len hC (.tmp rfl) (by first | exact .row rfl | exact .vs | exact .sl rfl | exact .nils) Tryd.underlying22 rfl rfl rfl)) ?_
    refine WL_cons hC.fn (.plain rfl (ox_cmp hC rfl (.tmp rfl) .cint (r := false) (by simp only [cmpI]; exact decide_eq_false (by omega)) rfl rfl)) ?_
    refine WL_cons hC.fn (.plain rfl (oc_move hC (.tmp rfl) rfl rfl)) ?_
    refine WL_cons hC.fn (.yes rfl rfl (by decide) rfl (oc_move hC (.tmp rfl) rfl rfl)) ?_
    refine WL_cons hC.fn (.yes rfl rfl (by decide) rfl (ox_len hC (.tmp rfl) (by first | exact .row rfl | exact .vs | exact .sl rfl | exact .nils) Tryd.underlying22 rfl rfl rfl)) ?_
    refine WL_cons hC.fn (.yes rfl rfl (by decide) rfl (ox_cmp hC rfl (.tmp rfl) .cint (r := true) (by simp only [cmpI]; exact decide_eq_true (by omega)) rfl rfl)) ?_
    refine WL_cons hC.fn (.plain rfl (ox_pick hC (.tmp rfl) .cbool (.tmp rfl) (by first | exact pick_t | exact pick_f | rfl) rfl rfl)) ?_
    refine WL_cons hC.fn (.plain rfl (oc_move hC (.tmp rfl) rfl rfl)) ?_
    refine WL_cons hC.fn (.no (s1 := ⟨_, (16, .tu []) :: _, _⟩) rfl rfl (by decide) rfl (by decide) (fun t ht => by cases ht; exact ⟨blt_lt rfl, blt_lt rfl⟩) (fun t => setE_cons _ _ _ _) rfl rfl) ?_
    refine WL_cons hC.fn (.no (s1 := ⟨_, (17, .tu []) :: _, _⟩) rfl rfl (by decide) rfl (by decide) (fun t ht => by cases ht; exact ⟨blt_lt rfl, blt_lt rfl⟩) (fun t => setE_cons _ _ _ _) rfl rfl) ?_
    refine WL_cons hC.fn (.no (s1 := ⟨_, (18, .tu []) :: _, _⟩) rfl rfl (by decide) rfl (by decide) (fun t ht => by cases ht; exact ⟨blt_lt rfl, blt_lt rfl⟩) (fun t => setE_cons _ _ _ _) rfl rfl) ?_
    refine WL_cons hC.fn (.plain rfl (ox_pick hC (.tmp rfl) .cbool (.tmp rfl) (by first | exact pick_t | exact pick_f | rfl) rfl rfl)) ?_
    refine WL_nil ?_
    refine W_cond rfl (by decide) (fun _ => ?_) (fun hc => by cases hc)
    refine W_seq ?_
    refine W_region ?_
    refine WL_cons hC.fn (.plain rfl (oc_call hC .nil (.same (by first | exact inSL_I _ | simp)) (awake04_c) (glob_cons rfl rfl (by first | exact inSL_I _ | simp) glob_nil) (by first | exact inSL_I _ | simp) (by first | exact .inl rfl | exact .inr (by simp)) rfl rfl)) ?_
    refine WL_cons hC.fn (.plain rfl (oc_assign hC (.tmp rfl) rfl rfl)) ?_
    refine WL_nil ?_
    refine W_ret ?_
    exact fin0 (.cons (.tmp rfl) .nil) rfl trivial
  ·
    refine W_region ?_
    refine WL_cons hC.fn (.plain rfl (oc_move hC (.tmp rfl) rfl rfl)) ?_
    refine WL_cons hC.fn (.plain rfl (ox_len hC (.tmp rfl) (by first | exact .row rfl | exact .vs | exact .sl rfl | exact .nils) Tryd.underlying22 rfl rfl rfl)) ?_
    refine WL_cons hC.fn (.plain rfl (ox_cmp hC rfl (.tmp rfl) .cint (r := false) (by simp only [cmpI]; exact decide_eq_false (by omega)) rfl rfl)) ?_
    refine WL_cons hC.fn (.plain rfl (oc_move hC (.tmp rfl) rfl rfl)) ?_
    refine WL_cons hC.fn (.yes rfl rfl (by decide) rfl (oc_move hC (.tmp rfl) rfl rfl)) ?_
    refine WL_cons hC.fn (.yes rfl rfl (by decide) rfl (ox_len hC (.tmp rfl) (by first | exact .row rfl | exact .vs | exact .sl rfl | exact .nils) Tryd.underlying22 rfl rfl rfl)) ?_
    refine WL_cons hC.fn (.yes rfl rfl (by decide) rfl (ox_cmp hC rfl (.tmp rfl) .cint (r := false) (by simp only [cmpI]; exact decide_eq_false (by omega)) rfl rfl)) ?_
    refine WL_cons hC.fn (.plain rfl (ox_pick hC (.tmp rfl) .cbool (.tmp rfl) (by first | exact pick_t | exact pick_f | rfl) rfl rfl)) ?_
    refine WL_cons hC.fn (.plain rfl (oc_move hC (.tmp rfl) rfl rfl)) ?_
    refine WL_cons hC.fn (.yes rfl rfl (by decide) rfl (oc_move hC (.tmp rfl) rfl rfl)) ?_
    refine WL_cons hC.fn (.yes rfl rfl (by decide) rfl (ox_len hC (.tmp rfl) (by first | exact .row rfl | exact .vs | exact .sl rfl | exact .nils) Tryd.underlying22 rfl rfl rfl)) ?_
    refine WL_cons hC.fn (.yes rfl rfl (by decide) rfl (ox_cmp hC rfl (.tmp rfl) .cint (r := true) (by simp only [cmpI]; exact decide_eq_true (by omega)) rfl rfl)) ?_
    refine WL_cons hC.fn (.plain rfl (ox_pick hC (.tmp rfl) .cbool (.tmp rfl) (by first | exact pick_t | exact pick_f | rfl) rfl rfl)) ?_
    refine WL_nil ?_
    refine W_cond rfl (by decide) (fun _ => ?_) (fun hc => by cases hc)
    refine W_seq ?_
    refine W_region ?_
    refine WL_cons hC.fn (.plain rfl (oc_call hC .nil (.same (by first | exact inSL_I _ | simp)) (awake04_c) (glob_cons rfl rfl (by first | exact inSL_I _ | simp) glob_nil) (by first | exact inSL_I _ | simp) (by first | exact .inl rfl | exact .inr (by simp)) rfl rfl)) ?_
    refine WL_cons hC.fn (.plain rfl (oc_assign hC (.tmp rfl) rfl rfl)) ?_
    refine WL_nil ?_
    refine W_ret ?_
    exact fin0 (.cons (.tmp rfl) .nil) rfl trivial
  ·
    refine W_region ?_
    refine WL_cons hC.fn (.plain rfl (oc_move hC (.tmp rfl) rfl rfl)) ?_
    refine WL_cons hC.fn (.plain rfl (ox_len hC (.tmp rfl) (by first | exact .row rfl | exact .vs | exact .sl rfl | exact .nils) Tryd.underlying22 rfl rfl rfl)) ?_
    refine WL_cons hC.fn (.plain rfl (ox_cmp hC rfl (.tmp rfl) .cint (r := false) (by simp only [cmpI]; exact decide_eq_false (by omega)) rfl rfl)) ?_
    refine WL_cons hC.fn (.plain rfl (oc_move hC (.tmp rfl) rfl rfl)) ?_
    refine WL_cons hC.fn (.yes rfl rfl (by decide) rfl (oc_move hC (.tmp rfl) rfl rfl)) ?_
    refine WL_cons hC.fn (.yes rfl rfl (by decide) rfl (ox_len hC (.tmp rfl) (by first | exact .row rfl | exact .vs | exact .sl rfl | exact .nils) Tryd.underlying22 rfl rfl rfl)) ?_
    refine WL_cons hC.fn (.yes rfl rfl (by decide) rfl (ox_cmp hC rfl (.tmp rfl) .cint (r := false) (by simp only [cmpI]; exact decide_eq_false (by omega)) rfl rfl)) ?_
    refine WL_cons hC.fn (.plain rfl (ox_pick hC (.tmp rfl) .cbool (.tmp rfl) (by first | exact pick_t | exact pick_f | rfl) rfl rfl)) ?_
    refine WL_cons hC.fn (.plain rfl (oc_move hC (.tmp rfl) rfl rfl)) ?_
    refine WL_cons hC.fn (.yes rfl rfl (by decide) rfl (oc_move hC (.tmp rfl) rfl rfl)) ?_
    refine WL_cons hC.fn (.yes rfl rfl (by decide) rfl (ox_len hC (.tmp rfl) (by first | exact .row rfl | exact .vs | exact .sl rfl | exact .nils) Tryd.underlying22 rfl rfl rfl)) ?_
    refine WL_cons hC.fn (.yes rfl rfl (by decide) rfl (ox_cmp hC rfl (.tmp rfl) .cint (r := false) (by simp only [cmpI]; exact decide_eq_false (by omega)) rfl rfl)) ?_
    refine WL_cons hC.fn (.plain rfl (ox_pick hC (.tmp rfl) .cbool (.tmp rfl) (by first | exact pick_t | exact pick_f | rfl) rfl rfl)) ?_
    refine WL_nil ?_
    refine W_cond rfl (by decide) (fun hc => by cases hc) (fun _ => ?_)
    refine W_skip ?_
    refine W_seq ?_
    refine W_region ?_
    refine WL_cons hC.fn (.plain rfl (oc_move hC (.tmp rfl) rfl rfl)) ?_
    refine WL_cons hC.fn (.plain rfl (oc_move hC (.tmp rfl) rfl rfl)) ?_
    refine WL_cons hC.fn (.plain rfl (oc_move hC (.tmp rfl) rfl rfl)) ?_
    refine WL_cons hC.fn (.plain rfl (ox_lit hC (.cons (.tmp rfl) (.cons .cnils (.cons (.tmp rfl) .nil))) Tryd.underlying33 cells_22 zero_22 rfl (by decide) rfl rfl (by first | rfl | simp) rfl rfl)) ?_
    refine WL_cons hC.fn (.plain rfl (oc_call hC (.cons (.tmp rfl) (.cons (.tmp rfl) .nil)) (.free (inSL_I _) (.vs (.free (inSL_I _) (.nils (.free (inSL_I _) (.same trivial)))) (.same trivial))) (code_c n key [(na, a), (0, []), (nb, b)] 3 hn hk (by omega) rfl (by decide) (by intro p hp; simp only [List.mem_cons, List.not_mem_nil, or_false] at hp; rcases hp with rfl | rfl | rfl; exact ⟨ha, ha8⟩; exact ⟨rfl, (by intro x hx; cases hx)⟩; exact ⟨hb, hb8⟩) (by simp; omega)) (glob_cons rfl rfl (by first | exact inSL_I _ | simp) glob_nil) (by first | exact inSL_I _ | simp) (by first | exact .inl rfl | exact .inr (by simp)) rfl rfl)) ?_
    rw [show (([(na, a), (0, []), (nb, b)] : List (Nat × List Int)).map (·.2)).flatten = a ++ b by simp]
    refine WL_cons hC.fn (.plain rfl (oc_move hC (.tmp rfl) rfl rfl)) ?_
    refine WL_cons hC.fn (.plain rfl (ox_litRI (k := .u8) (ws := []) hC .nil Tryd.underlying22 cells_5 zero_5 rfl (by decide) rfl rfl (by first | rfl | simp) rfl rfl rfl)) ?_
    refine WL_cons hC.fn (.plain rfl (oc_move hC (.tmp rfl) rfl rfl)) ?_
    refine WL_cons hC.fn (.plain rfl (ox_append (n' := na) (cs' := I .u8 a) hC (.tmp rfl) (.tmp rfl) (by first | exact .row rfl rfl (by first | exact .here rfl | exact .there (.here rfl) rfl | exact .there (.there (.here rfl) rfl) rfl | exact .there (.there (.there (.here rfl) rfl) rfl) rfl | exact .there (.there (.there (.there (.here rfl) rfl) rfl) rfl) rfl | exact .there (.there (.there (.there (.there (.here rfl) rfl) rfl) rfl) rfl) rfl | exact .there (.there (.there (.there (.there (.there (.here rfl) rfl) rfl) rfl) rfl) rfl) rfl | exact .there (.there (.there (.there (.there (.there (.there (.here rfl) rfl) rfl) rfl) rfl) rfl) rfl) rfl | exact .there (.there (.there (.there (.there (.there (.there (.there (.here rfl) rfl) rfl) rfl) rfl) rfl) rfl) rfl) rfl | exact .there (.there (.there (.there (.there (.there (.there (.there (.there (.here rfl) rfl) rfl) rfl) rfl) rfl) rfl) rfl) rfl) rfl) | exact .nils) (by first | exact .row rfl | exact .vs | exact .sl rfl | exact .nils) (by first | exact hro_nil | exact hro_one rfl) Tryd.underlying22 cells_5 bytes_5 zero_5 rfl (by decide) (by rw [length_I]; omega) (by first | rfl | exact one_takeI) (Nat.zero_add _) ((app_I (us := []) ha).trans rfl) (by simp only [maxLen]; omega) (by omega) rfl rfl)) ?_
    refine WL_cons hC.fn (.plain rfl (oc_move hC (.tmp rfl) rfl rfl)) ?_
    refine WL_cons hC.fn (.plain rfl (ox_append hC (.tmp rfl) (.tmp rfl) (by first | exact .row rfl rfl (by first | exact .here rfl | exact .there (.here rfl) rfl | exact .there (.there (.here rfl) rfl) rfl | exact .there (.there (.there (.here rfl) rfl) rfl) rfl | exact .there (.there (.there (.there (.here rfl) rfl) rfl) rfl) rfl | exact .there (.there (.there (.there (.there (.here rfl) rfl) rfl) rfl) rfl) rfl | exact .there (.there (.there (.there (.there (.there (.here rfl) rfl) rfl) rfl) rfl) rfl) rfl | exact .there (.there (.there (.there (.there (.there (.there (.here rfl) rfl) rfl) rfl) rfl) rfl) rfl) rfl | exact .there (.there (.there (.there (.there (.there (.there (.there (.here rfl) rfl) rfl) rfl) rfl) rfl) rfl) rfl) rfl | exact .there (.there (.there (.there (.there (.there (.there (.there (.there (.here rfl) rfl) rfl) rfl) rfl) rfl) rfl) rfl) rfl) rfl) | exact .nils) (by first | exact .row rfl | exact .vs | exact .sl rfl | exact .nils) (by first | exact hro_nil | exact hro_one rfl) Tryd.underlying22 cells_5 bytes_5 zero_5 rfl (by decide) (by rw [length_I]; omega) (by first | rfl | exact one_takeI) (by first | rfl | (simp <;> fail) | (simp; omega)) (app_I hb) (by simp only [maxLen]; omega) (by omega) rfl rfl)) ?_
    refine WL_cons hC.fn (.plain rfl (ox_lit hC (.cons (.tmp rfl) .nil) Tryd.underlying33 cells_22 zero_22 rfl (by decide) rfl rfl (by first | rfl | simp) rfl rfl)) ?_
    refine WL_cons hC.fn (.plain rfl (oc_call hC (.cons (.tmp rfl) (.cons (.tmp rfl) .nil)) (.free (inSL_I _) (.vs (.row rfl (.same (inSL_I _)) (.same trivial)) (.same trivial))) (code_c n key [(na + nb, a ++ b)] 1 hn hk (by omega) rfl (by decide) (by intro p hp; simp only [List.mem_cons, List.not_mem_nil, or_false] at hp; subst hp; exact ⟨(by simp; omega), B8_append ha8 hb8⟩) (by simp; omega)) (glob_cons rfl rfl (by first | exact inSL_I _ | simp) glob_nil) (by first | exact inSL_I _ | simp) (by first | exact .inl rfl | exact .inr (by simp)) rfl rfl)) ?_
    rw [show (([(na + nb, a ++ b)] : List (Nat × List Int)).map (·.2)).flatten = a ++ b by simp]
    refine WL_cons hC.fn (.plain rfl (ox_eqI (r := true) hC (.inl rfl) (.tmp rfl) (.tmp rfl) sh_24 kt_24 sg_24 eg_24 hlc hlc (wf_u8 hbc) (wf_u8 hbc) (by simp) rfl rfl)) ?_
    refine WL_cons hC.fn (.plain rfl (oc_move hC (.tmp rfl) rfl rfl)) ?_
    refine WL_cons hC.fn (.yes rfl rfl (by decide) rfl (oc_call hC .nil (.same (by first | exact inSL_I _ | simp)) (awake04_c) (glob_cons rfl rfl (by first | exact inSL_I _ | simp) glob_nil) (by first | exact inSL_I _ | simp) (by first | exact .inl rfl | exact .inr (by simp)) rfl rfl)) ?_
    refine WL_cons hC.fn (.plain rfl (ox_pick hC (.tmp rfl) (.tmp rfl) .cbool (by first | exact pick_t | exact pick_f | rfl) rfl rfl)) ?_
    refine WL_cons hC.fn (.plain rfl (oc_assign hC (.tmp rfl) rfl rfl)) ?_
    refine WL_nil ?_
    refine W_ret ?_
    exact fin0 (.cons (.tmp rfl) .nil) rfl trivial
set_option maxRecDepth 20000 in
set_option maxHeartbeats 4000000 in
theorem law_DeriveKeys (ns nt np : Nat) (se sa pu : List Int) (hs : se.length = ns) (ht : sa.length = nt) (hp : pu.length = np) (bs8 : B8 se) (bt8 : B8 sa) (bp8 : B8 pu) (n : Int) : FnC Tryd.prog 5 [(1000000, .rp (I .u32 tbl))] [.vs ns (I .u8 se), .vs nt (I .u8 sa), .vs np (I .u8 pu), .i .i64 n] [] [] (.b true) := by
  refine FnC.intro (N0 := 0) (T := 58) (E := [(0, .vs ns (I .u8 se)), (1, .vs nt (I .u8 sa)), (2, .vs np (I .u8 pu)), (3, .i .i64 n), (1000000, .rp (I .u32 tbl))]) Tryd.func5 rfl (by decide) mix rfl rfl rfl (by simp) rfl ⟨(by first | exact inSL_I _ | trivial | simp), (by first | exact inSL_I _ | trivial | simp), (by first | exact inSL_I _ | trivial | simp), (by first | exact inSL_I _ | trivial | simp), trivial⟩ (by simp) (by intro S _ _ h; simp) (fun F n0 X w ρ hC => ?_)
  refine W_seq ?_
  refine W_region ?_
  refine WL_cons hC.fn (.plain rfl (oc_assign hC .cbool rfl rfl)) ?_
  refine WL_nil ?_
  refine W_seq ?_
  refine W_seq ?_
  rcases (show (100 < ns) ∨ (ns ≤ 100 ∧ 100 < nt) ∨ (ns ≤ 100 ∧ nt ≤ 100 ∧ 100 < np) ∨ (ns ≤ 100 ∧ nt ≤ 100 ∧ np ≤ 100) by omega) with h | h | h | h
  ·
    refine W_region ?_
    refine WL_cons hC.fn (.plain rfl (oc_move hC (.tmp rfl) rfl rfl)) ?_
    refine WL_cons hC.fn (.plain rfl (ox_len hC (.tmp rfl) (by first | exact .row rfl | exact .vs | exact .sl rfl | exact .nils) Tryd.underlying22 rfl rfl rfl)) ?_
    refine WL_cons hC.fn (.plain rfl (ox_cmp hC rfl (.tmp rfl) .cint (r := true) (by simp only [cmpI]; exact decide_eq_true (by omega)) rfl rfl)) ?_
    refine WL_cons hC.fn (.plain rfl (oc_move hC (.tmp rfl) rfl rfl)) ?_
    refine WL_cons hC.fn (.no (s1 := ⟨_, (13, .tu []) :: _, _⟩) rfl rfl (by decide) rfl (by decide) (fun t ht => by cases ht; exact ⟨blt_lt rfl, blt_lt rfl⟩) (fun t => setE_cons _ _ _ _) rfl rfl) ?_
    refine WL_cons hC.fn (.no (s1 := ⟨_, (14, .tu []) :: _, _⟩) rfl rfl (by decide) rfl (by decide) (fun t ht => by cases ht; exact ⟨blt_lt rfl, blt_lt rfl⟩) (fun t => setE_cons _ _ _ _) rfl rfl) ?_
    refine WL_cons hC.fn (.no (s1 := ⟨_, (15, .tu []) :: _, _⟩) rfl rfl (by decide) rfl (by decide) (fun t ht => by cases ht; exact ⟨blt_lt rfl, blt_lt rfl⟩) (fun t => setE_cons _ _ _ _) rfl rfl) ?_
    refine WL_cons hC.fn (.plain rfl (ox_pick hC (.tmp rfl) .cbool (.tmp rfl) (by first | exact pick_t | exact pick_f | rfl) rfl rfl)) ?_
    refine WL_cons hC.fn (.plain rfl (oc_move hC (.tmp rfl) rfl rfl)) ?_
    refine WL_cons hC.fn (.no (s1 := ⟨_, (18, .tu []) :: _, _⟩) rfl rfl (by decide) rfl (by decide) (fun t ht => by cases ht; exact ⟨blt_lt rfl, blt_lt rfl⟩) (fun t => setE_cons _ _ _ _) rfl rfl) ?_
    refine WL_cons hC.fn (.no (s1 := ⟨_, (19, .tu []) :: _, _⟩) rfl rfl (by decide) rfl (by decide) (fun t ht => by cases ht; exact ⟨blt_lt rfl, blt_lt rfl⟩) (fun t => setE_cons _ _ _ _) rfl rfl) ?_
    refine WL_cons hC.fn (.no (s1 := ⟨_, (20, .tu []) :: _, _⟩) rfl rfl (by decide) rfl (by decide) (fun t ht => by cases ht; exact ⟨blt_lt rfl, blt_lt rfl⟩) (fun t => setE_cons _ _ _ _) rfl rfl) ?_
    refine WL_cons hC.fn (.plain rfl (ox_pick hC (.tmp rfl) .cbool (.tmp rfl) (by first | exact pick_t | exact pick_f | rfl) rfl rfl)) ?_
    refine WL_nil ?_
    refine W_cond rfl (by decide) (fun _ => ?_) (fun hc => by cases hc)
    refine W_seq ?_
    refine W_region ?_
    refine WL_cons hC.fn (.plain rfl (oc_call hC .nil (.same (by first | exact inSL_I _ | simp)) (awake04_c) (glob_cons rfl rfl (by first | exact inSL_I _ | simp) glob_nil) (by first | exact inSL_I _ | simp) (by first | exact .inl rfl | exact .inr (by simp)) rfl rfl)) ?_
    refine WL_cons hC.fn (.plain rfl (oc_assign hC (.tmp rfl) rfl rfl)) ?_
    refine WL_nil ?_
    refine W_ret ?_
    exact fin0 (.cons (.tmp rfl) .nil) rfl trivial
  ·
    refine W_region ?_
    refine WL_cons hC.fn (.plain rfl (oc_move hC (.tmp rfl) rfl rfl)) ?_
    refine WL_cons hC.fn (.plain rfl (ox_len hC (.tmp rfl) (by first | exact .row rfl | exact .vs | exact .sl rfl | exact .nils) Tryd.underlying22 rfl rfl rfl)) ?_
    refine WL_cons hC.fn (.plain rfl (ox_cmp hC rfl (.tmp rfl) .cint (r := false) (by simp only [cmpI]; exact decide_eq_false (by omega)) rfl rfl)) ?_
    refine WL_cons hC.fn (.plain rfl (oc_move hC (.tmp rfl) rfl rfl)) ?_
    refine WL_cons hC.fn (.yes rfl rfl (by decide) rfl (oc_move hC (.tmp rfl) rfl rfl)) ?_
    refine WL_cons hC.fn (.yes rfl rfl (by decide) rfl (ox_len hC (.tmp rfl) (by first | exact .row rfl | exact .vs | exact .sl rfl | exact .nils) Tryd.underlying22 rfl rfl rfl)) ?_
    refine WL_cons hC.fn (.yes rfl rfl (by decide) rfl (ox_cmp hC rfl (.tmp rfl) .cint (r := true) (by simp only [cmpI]; exact decide_eq_true (by omega)) rfl rfl)) ?_
    refine WL_cons hC.fn (.plain rfl (ox_pick hC (.tmp rfl) .cbool (.tmp rfl) (by first | exact pick_t | exact pick_f | rfl) rfl rfl)) ?_
    refine WL_cons hC.fn (.plain rfl (oc_move hC (.tmp rfl) rfl rfl)) ?_
    refine WL_cons hC.fn (.no (s1 := ⟨_, (18, .tu []) :: _, _⟩) rfl rfl (by decide) rfl (by decide) (fun t ht => by cases ht; exact ⟨blt_lt rfl, blt_lt rfl⟩) (fun t => setE_cons _ _ _ _) rfl rfl) ?_
    refine WL_cons hC.fn (.no (s1 := ⟨_, (19, .tu []) :: _, _⟩) rfl rfl (by decide) rfl (by decide) (fun t ht => by cases ht; exact ⟨blt_lt rfl, blt_lt rfl⟩) (fun t => setE_cons _ _ _ _) rfl rfl) ?_
    refine WL_cons hC.fn (.no (s1 := ⟨_, (20, .tu []) :: _, _⟩) rfl rfl (by decide) rfl (by decide) (fun t ht => by cases ht; exact ⟨blt_lt rfl, blt_lt rfl⟩) (fun t => setE_cons _ _ _ _) rfl rfl) ?_
    refine WL_cons hC.fn (.plain rfl (ox_pick hC (.tmp rfl) .cbool (.tmp rfl) (by first | exact pick_t | exact pick_f | rfl) rfl rfl)) ?_
    refine WL_nil ?_
    refine W_cond rfl (by decide) (fun _ => ?_) (fun hc => by cases hc)
    refine W_seq ?_
    refine W_region ?_
    refine WL_cons hC.fn (.plain rfl (oc_call hC .nil (.same (by first | exact inSL_I _ | simp)) (awake04_c) (glob_cons rfl rfl (by first | exact inSL_I _ | simp) glob_nil) (by first | exact inSL_I _ | simp) (by first | exact .inl rfl | exact .inr (by simp)) rfl rfl)) ?_
    refine WL_cons hC.fn (.plain rfl (oc_assign hC (.tmp rfl) rfl rfl)) ?_
    refine WL_nil ?_
    refine W_ret ?_
    exact fin0 (.cons (.tmp rfl) .nil) rfl trivial
  ·
    refine W_region ?_
    refine WL_cons hC.fn (.plain rfl (oc_move hC (.tmp rfl) rfl rfl)) ?_
    refine WL_cons hC.fn (.plain rfl (ox_len hC (.tmp rfl) (by first | exact .row rfl | exact .vs | exact .sl rfl | exact .nils) Tryd.underlying22 rfl rfl rfl)) ?_
    refine WL_cons hC.fn (.plain rfl (ox_cmp hC rfl (.tmp rfl) .cint (r := false) (by simp only [cmpI]; exact decide_eq_false (by omega)) rfl rfl)) ?_
    refine WL_cons hC.fn (.plain rfl (oc_move hC (.tmp rfl) rfl rfl)) ?_
    refine WL_cons hC.fn (.yes rfl rfl (by decide) rfl (oc_move hC (.tmp rfl) rfl rfl)) ?_
    refine WL_cons hC.fn (.yes rfl rfl (by decide) rfl (ox_len hC (.tmp rfl) (by first | exact .row rfl | exact .vs | exact .sl rfl | exact .nils) Tryd.underlying22 rfl rfl rfl)) ?_
    refine WL_cons hC.fn (.yes rfl rfl (by decide) rfl (ox_cmp hC rfl (.tmp rfl) .cint (r := false) (by simp only [cmpI]; exact decide_eq_false (by omega)) rfl rfl)) ?_
    refine WL_cons hC.fn (.plain rfl (ox_pick hC (.tmp rfl) .cbool (.tmp rfl) (by first | exact pick_t | exact pick_f | rfl) rfl rfl)) ?_
    refine WL_cons hC.fn (.plain rfl (oc_move hC (.tmp rfl) rfl rfl)) ?_
    refine WL_cons hC.fn (.yes rfl rfl (by decide) rfl (oc_move hC (.tmp rfl) rfl rfl)) ?_
    refine WL_cons hC.fn (.yes rfl rfl (by decide) rfl (ox_len hC (.tmp rfl) (by first | exact .row rfl | exact .vs | exact .sl rfl | exact .nils) Tryd.underlying22 rfl rfl rfl)) ?_
    refine WL_cons hC.fn (.yes rfl rfl (by decide) rfl (ox_cmp hC rfl (.tmp rfl) .cint (r := true) (by simp only [cmpI]; exact decide_eq_true (by omega)) rfl rfl)) ?_
    refine WL_cons hC.fn (.plain rfl (ox_pick hC (.tmp rfl) .cbool (.tmp rfl) (by first | exact pick_t | exact pick_f | rfl) rfl rfl)) ?_
    refine WL_nil ?_
    refine W_cond rfl (by decide) (fun _ => ?_) (fun hc => by cases hc)
    refine W_seq ?_
    refine W_region ?_
    refine WL_cons hC.fn (.plain rfl (oc_call hC .nil (.same (by first | exact inSL_I _ | simp)) (awake04_c) (glob_cons rfl rfl (by first | exact inSL_I _ | simp) glob_nil) (by first | exact inSL_I _ | simp) (by first | exact .inl rfl | exact .inr (by simp)) rfl rfl)) ?_
    refine WL_cons hC.fn (.plain rfl (oc_assign hC (.tmp rfl) rfl rfl)) ?_
    refine WL_nil ?_
    refine W_ret ?_
    exact fin0 (.cons (.tmp rfl) .nil) rfl trivial
  ·
    refine W_region ?_
    refine WL_cons hC.fn (.plain rfl (oc_move hC (.tmp rfl) rfl rfl)) ?_
    refine WL_cons hC.fn (.plain rfl (ox_len hC (.tmp rfl) (by first | exact .row rfl | exact .vs | exact .sl rfl | exact .nils) Tryd.underlying22 rfl rfl rfl)) ?_
    refine WL_cons hC.fn (.plain rfl (ox_cmp hC rfl (.tmp rfl) .cint (r := false) (by simp only [cmpI]; exact decide_eq_false (by omega)) rfl rfl)) ?_
    refine WL_cons hC.fn (.plain rfl (oc_move hC (.tmp rfl) rfl rfl)) ?_
    refine WL_cons hC.fn (.yes rfl rfl (by decide) rfl (oc_move hC (.tmp rfl) rfl rfl)) ?_
    refine WL_cons hC.fn (.yes rfl rfl (by decide) rfl (ox_len hC (.tmp rfl) (by first | exact .row rfl | exact .vs | exact .sl rfl | exact .nils) Tryd.underlying22 rfl rfl rfl)) ?_
    refine WL_cons hC.fn (.yes rfl rfl (by decide) rfl (ox_cmp hC rfl (.tmp rfl) .cint (r := false) (by simp only [cmpI]; exact decide_eq_false (by omega)) rfl rfl)) ?_
    refine WL_cons hC.fn (.plain rfl (ox_pick hC (.tmp rfl) .cbool (.tmp rfl) (by first | exact pick_t | exact pick_f | rfl) rfl rfl)) ?_
    refine WL_cons hC.fn (.plain rfl (oc_move hC (.tmp rfl) rfl rfl)) ?_
    refine WL_cons hC.fn (.yes rfl rfl (by decide) rfl (oc_move hC (.tmp rfl) rfl rfl)) ?_
    refine WL_cons hC.fn (.yes rfl rfl (by decide) rfl (ox_len hC (.tmp rfl) (by first | exact .row rfl | exact .vs | exact .sl rfl | exact .nils) Tryd.underlying22 rfl rfl rfl)) ?_
    refine WL_cons hC.fn (.yes rfl rfl (by decide) rfl (ox_cmp hC rfl (.tmp rfl) .cint (r := false) (by simp only [cmpI]; exact decide_eq_false (by omega)) rfl rfl)) ?_
    refine WL_cons hC.fn (.plain rfl (ox_pick hC (.tmp rfl) .cbool (.tmp rfl) (by first | exact pick_t | exact pick_f | rfl) rfl rfl)) ?_
    refine WL_nil ?_
    refine W_cond rfl (by decide) (fun hc => by cases hc) (fun _ => ?_)
    refine W_skip ?_
    refine W_seq ?_
    refine W_seq ?_
    rcases (show n < 0 ∨ (0 ≤ n ∧ 8160 < n) ∨ (0 ≤ n ∧ 100 < n ∧ n ≤ 8160) ∨ (0 ≤ n ∧ n ≤ 100) by omega) with h2 | h2 | h2 | h2
    ·
      refine W_region ?_
      refine WL_cons hC.fn (.plain rfl (oc_move hC (.tmp rfl) rfl rfl)) ?_
      refine WL_cons hC.fn (.plain rfl (ox_cmp hC rfl (.tmp rfl) .cint (r := true) (by simp only [cmpI]; exact decide_eq_true (by omega)) rfl rfl)) ?_
      refine WL_cons hC.fn (.plain rfl (oc_move hC (.tmp rfl) rfl rfl)) ?_
      refine WL_cons hC.fn (.no (s1 := ⟨_, (26, .tu []) :: _, _⟩) rfl rfl (by decide) rfl (by decide) (fun t ht => by cases ht; exact ⟨blt_lt rfl, blt_lt rfl⟩) (fun t => setE_cons _ _ _ _) rfl rfl) ?_
      refine WL_cons hC.fn (.no (s1 := ⟨_, (27, .tu []) :: _, _⟩) rfl rfl (by decide) rfl (by decide) (fun t ht => by cases ht; exact ⟨blt_lt rfl, blt_lt rfl⟩) (fun t => setE_cons _ _ _ _) rfl rfl) ?_
      refine WL_cons hC.fn (.plain rfl (ox_pick hC (.tmp rfl) .cbool (.tmp rfl) (by first | exact pick_t | exact pick_f | rfl) rfl rfl)) ?_
      refine WL_nil ?_
      refine W_cond rfl (by decide) (fun _ => ?_) (fun hc => by cases hc)
      refine W_seq ?_
      refine W_region ?_
      refine WL_cons hC.fn (.plain rfl (oc_move hC (.tmp rfl) rfl rfl)) ?_
      refine WL_cons hC.fn (.plain rfl (oc_move hC (.tmp rfl) rfl rfl)) ?_
      refine WL_cons hC.fn (.plain rfl (oc_move hC (.tmp rfl) rfl rfl)) ?_
      refine WL_cons hC.fn (.plain rfl (oc_move hC (.tmp rfl) rfl rfl)) ?_
      refine WL_cons hC.fn (.plain rfl (oc_call hC (.cons (.tmp rfl) (.cons (.tmp rfl) (.cons (.tmp rfl) (.cons (.tmp rfl) .nil)))) (.cons1 (by first | exact .free (by first | exact inSL_I _ | simp) | exact .row rfl rfl (by first | exact inSL_I _ | simp) | exact .nils | exact .sl1 rfl (by first | exact cut_I | rfl) (by first | exact inSL_I _ | simp)) (.cons1 (by first | exact .free (by first | exact inSL_I _ | simp) | exact .row rfl rfl (by first | exact inSL_I _ | simp) | exact .nils | exact .sl1 rfl (by first | exact cut_I | rfl) (by first | exact inSL_I _ | simp)) (.cons1 (by first | exact .free (by first | exact inSL_I _ | simp) | exact .row rfl rfl (by first | exact inSL_I _ | simp) | exact .nils | exact .sl1 rfl (by first | exact cut_I | rfl) (by first | exact inSL_I _ | simp)) (.cons1 (.free (by first | exact inSL_I _ | simp)) (.same (by first | exact inSL_I _ | simp)))))) (keyno_c ns nt np se sa pu n (by omega)) glob_nil (by first | exact inSL_I _ | simp) (by first | exact .inl rfl | exact .inr (by simp)) rfl rfl)) ?_
      refine WL_cons hC.fn (.plain rfl (ox_len hC (.tmp rfl) (by first | exact .row rfl | exact .vs | exact .sl rfl | exact .nils) Tryd.underlying22 rfl rfl rfl)) ?_
      refine WL_cons hC.fn (.plain rfl (ox_cmp hC rfl (.tmp rfl) .cint (r := true) rfl rfl rfl)) ?_
      refine WL_cons hC.fn (.plain rfl (oc_move hC (.tmp rfl) rfl rfl)) ?_
      refine WL_cons hC.fn (.yes rfl rfl (by decide) rfl (oc_call hC .nil (.same (by first | exact inSL_I _ | simp)) (awake04_c) (glob_cons rfl rfl (by first | exact inSL_I _ | simp) glob_nil) (by first | exact inSL_I _ | simp) (by first | exact .inl rfl | exact .inr (by simp)) rfl rfl)) ?_
      refine WL_cons hC.fn (.plain rfl (ox_pick hC (.tmp rfl) (.tmp rfl) .cbool (by first | exact pick_t | exact pick_f | rfl) rfl rfl)) ?_
      refine WL_cons hC.fn (.plain rfl (oc_assign hC (.tmp rfl) rfl rfl)) ?_
      refine WL_nil ?_
      refine W_ret ?_
      exact fin0 (.cons (.tmp rfl) .nil) rfl trivial
    ·
      refine W_region ?_
      refine WL_cons hC.fn (.plain rfl (oc_move hC (.tmp rfl) rfl rfl)) ?_
      refine WL_cons hC.fn (.plain rfl (ox_cmp hC rfl (.tmp rfl) .cint (r := false) (by simp only [cmpI]; exact decide_eq_false (by omega)) rfl rfl)) ?_
      refine WL_cons hC.fn (.plain rfl (oc_move hC (.tmp rfl) rfl rfl)) ?_
      refine WL_cons hC.fn (.yes rfl rfl (by decide) rfl (oc_move hC (.tmp rfl) rfl rfl)) ?_
      refine WL_cons hC.fn (.yes rfl rfl (by decide) rfl (ox_cmp hC rfl (.tmp rfl) .cint (r := true) (by simp only [cmpI]; exact decide_eq_true (by omega)) rfl rfl)) ?_
      refine WL_cons hC.fn (.plain rfl (ox_pick hC (.tmp rfl) .cbool (.tmp rfl) (by first | exact pick_t | exact pick_f | rfl) rfl rfl)) ?_
      refine WL_nil ?_
      refine W_cond rfl (by decide) (fun _ => ?_) (fun hc => by cases hc)
      refine W_seq ?_
      refine W_region ?_
      refine WL_cons hC.fn (.plain rfl (oc_move hC (.tmp rfl) rfl rfl)) ?_
      refine WL_cons hC.fn (.plain rfl (oc_move hC (.tmp rfl) rfl rfl)) ?_
      refine WL_cons hC.fn (.plain rfl (oc_move hC (.tmp rfl) rfl rfl)) ?_
      refine WL_cons hC.fn (.plain rfl (oc_move hC (.tmp rfl) rfl rfl)) ?_
      refine WL_cons hC.fn (.plain rfl (oc_call hC (.cons (.tmp rfl) (.cons (.tmp rfl) (.cons (.tmp rfl) (.cons (.tmp rfl) .nil)))) (.cons1 (by first | exact .free (by first | exact inSL_I _ | simp) | exact .row rfl rfl (by first | exact inSL_I _ | simp) | exact .nils | exact .sl1 rfl (by first | exact cut_I | rfl) (by first | exact inSL_I _ | simp)) (.cons1 (by first | exact .free (by first | exact inSL_I _ | simp) | exact .row rfl rfl (by first | exact inSL_I _ | simp) | exact .nils | exact .sl1 rfl (by first | exact cut_I | rfl) (by first | exact inSL_I _ | simp)) (.cons1 (by first | exact .free (by first | exact inSL_I _ | simp) | exact .row rfl rfl (by first | exact inSL_I _ | simp) | exact .nils | exact .sl1 rfl (by first | exact cut_I | rfl) (by first | exact inSL_I _ | simp)) (.cons1 (.free (by first | exact inSL_I _ | simp)) (.same (by first | exact inSL_I _ | simp)))))) (keyno_c ns nt np se sa pu n (by omega)) glob_nil (by first | exact inSL_I _ | simp) (by first | exact .inl rfl | exact .inr (by simp)) rfl rfl)) ?_
      refine WL_cons hC.fn (.plain rfl (ox_len hC (.tmp rfl) (by first | exact .row rfl | exact .vs | exact .sl rfl | exact .nils) Tryd.underlying22 rfl rfl rfl)) ?_
      refine WL_cons hC.fn (.plain rfl (ox_cmp hC rfl (.tmp rfl) .cint (r := true) rfl rfl rfl)) ?_
      refine WL_cons hC.fn (.plain rfl (oc_move hC (.tmp rfl) rfl rfl)) ?_
      refine WL_cons hC.fn (.yes rfl rfl (by decide) rfl (oc_call hC .nil (.same (by first | exact inSL_I _ | simp)) (awake04_c) (glob_cons rfl rfl (by first | exact inSL_I _ | simp) glob_nil) (by first | exact inSL_I _ | simp) (by first | exact .inl rfl | exact .inr (by simp)) rfl rfl)) ?_
      refine WL_cons hC.fn (.plain rfl (ox_pick hC (.tmp rfl) (.tmp rfl) .cbool (by first | exact pick_t | exact pick_f | rfl) rfl rfl)) ?_
      refine WL_cons hC.fn (.plain rfl (oc_assign hC (.tmp rfl) rfl rfl)) ?_
      refine WL_nil ?_
      refine W_ret ?_
      exact fin0 (.cons (.tmp rfl) .nil) rfl trivial
    ·
      refine W_region ?_
      refine WL_cons hC.fn (.plain rfl (oc_move hC (.tmp rfl) rfl rfl)) ?_
      refine WL_cons hC.fn (.plain rfl (ox_cmp hC rfl (.tmp rfl) .cint (r := false) (by simp only [cmpI]; exact decide_eq_false (by omega)) rfl rfl)) ?_
      refine WL_cons hC.fn (.plain rfl (oc_move hC (.tmp rfl) rfl rfl)) ?_
      refine WL_cons hC.fn (.yes rfl rfl (by decide) rfl (oc_move hC (.tmp rfl) rfl rfl)) ?_
      refine WL_cons hC.fn (.yes rfl rfl (by decide) rfl (ox_cmp hC rfl (.tmp rfl) .cint (r := false) (by simp only [cmpI]; exact decide_eq_false (by omega)) rfl rfl)) ?_
      refine WL_cons hC.fn (.plain rfl (ox_pick hC (.tmp rfl) .cbool (.tmp rfl) (by first | exact pick_t | exact pick_f | rfl) rfl rfl)) ?_
      refine WL_nil ?_
      refine W_cond rfl (by decide) (fun hc => by cases hc) (fun _ => ?_)
      refine W_skip ?_
      refine W_seq ?_
      refine W_seq ?_
      refine W_region ?_
      refine WL_cons hC.fn (.plain rfl (oc_move hC (.tmp rfl) rfl rfl)) ?_
      refine WL_cons hC.fn (.plain rfl (ox_cmp hC rfl (.tmp rfl) .cint (r := true) (by simp only [cmpI]; exact decide_eq_true (by omega)) rfl rfl)) ?_
      refine WL_nil ?_
      refine W_cond rfl (by decide) (fun _ => ?_) (fun hc => by cases hc)
      refine W_seq ?_
      refine W_region ?_
      refine WL_cons hC.fn (.plain rfl (oc_call hC .nil (.same (by first | exact inSL_I _ | simp)) (awake04_c) (glob_cons rfl rfl (by first | exact inSL_I _ | simp) glob_nil) (by first | exact inSL_I _ | simp) (by first | exact .inl rfl | exact .inr (by simp)) rfl rfl)) ?_
      refine WL_cons hC.fn (.plain rfl (oc_assign hC (.tmp rfl) rfl rfl)) ?_
      refine WL_nil ?_
      refine W_ret ?_
      exact fin0 (.cons (.tmp rfl) .nil) rfl trivial
    ·
      obtain ⟨n, rfl⟩ := Int.eq_ofNat_of_zero_le h2.1
      have hkl := length_keyS_take (p := codeM sa se) (q := pu) (Nat.le_refl n)
      refine W_region ?_
      refine WL_cons hC.fn (.plain rfl (oc_move hC (.tmp rfl) rfl rfl)) ?_
      refine WL_cons hC.fn (.plain rfl (ox_cmp hC rfl (.tmp rfl) .cint (r := false) (by simp only [cmpI]; exact decide_eq_false (by omega)) rfl rfl)) ?_
      refine WL_cons hC.fn (.plain rfl (oc_move hC (.tmp rfl) rfl rfl)) ?_
      refine WL_cons hC.fn (.yes rfl rfl (by decide) rfl (oc_move hC (.tmp rfl) rfl rfl)) ?_
      refine WL_cons hC.fn (.yes rfl rfl (by decide) rfl (ox_cmp hC rfl (.tmp rfl) .cint (r := false) (by simp only [cmpI]; exact decide_eq_false (by omega)) rfl rfl)) ?_
      refine WL_cons hC.fn (.plain rfl (ox_pick hC (.tmp rfl) .cbool (.tmp rfl) (by first | exact pick_t | exact pick_f | rfl) rfl rfl)) ?_
      refine WL_nil ?_
      refine W_cond rfl (by decide) (fun hc => by cases hc) (fun _ => ?_)
      refine W_skip ?_
      refine W_seq ?_
      refine W_seq ?_
      refine W_region ?_
      refine WL_cons hC.fn (.plain rfl (oc_move hC (.tmp rfl) rfl rfl)) ?_
      refine WL_cons hC.fn (.plain rfl (ox_cmp hC rfl (.tmp rfl) .cint (r := false) (by simp only [cmpI]; exact decide_eq_false (by omega)) rfl rfl)) ?_
      refine WL_nil ?_
      refine W_cond rfl (by decide) (fun hc => by cases hc) (fun _ => ?_)
      refine W_skip ?_
      refine W_seq ?_
      refine W_drawD hC ?_
      refine WD_cons (.plain rfl (oc_move hC (.tmp rfl) rfl rfl)) ?_
      refine WD_cons (.plain rfl (oc_move hC (.tmp rfl) rfl rfl)) ?_
      refine WD_cons (.plain rfl (oc_move hC (.tmp rfl) rfl rfl)) ?_
      refine WD_cons (.plain rfl (oc_move hC (.tmp rfl) rfl rfl)) ?_
      refine WD_cons (.plain rfl (oc_callN hC (.cons (.tmp rfl) (.cons (.tmp rfl) (.cons (.tmp rfl) (.cons (.tmp rfl) .nil)))) (.cons1 (by first | exact .free (by first | exact inSL_I _ | simp) | exact .row rfl rfl (by first | exact inSL_I _ | simp) | exact .nils | exact .sl1 rfl (by first | exact cut_I | rfl) (by first | exact inSL_I _ | simp)) (.cons1 (by first | exact .free (by first | exact inSL_I _ | simp) | exact .row rfl rfl (by first | exact inSL_I _ | simp) | exact .nils | exact .sl1 rfl (by first | exact cut_I | rfl) (by first | exact inSL_I _ | simp)) (.cons1 (by first | exact .free (by first | exact inSL_I _ | simp) | exact .row rfl rfl (by first | exact inSL_I _ | simp) | exact .nils | exact .sl1 rfl (by first | exact cut_I | rfl) (by first | exact inSL_I _ | simp)) (.cons1 (.free (by first | exact inSL_I _ | simp)) (.same (by first | exact inSL_I _ | simp)))))) (key_c _ _ _ n se sa pu hs ht hp bs8 bt8 bp8 (by omega) (by omega) (by omega) (by omega)) (glob_cons rfl rfl (by first | exact inSL_I _ | simp) glob_nil) (by first | exact inSL_I _ | simp) rfl (by first | exact .inl rfl | exact .inr ⟨by simp, novsL_I _⟩ | exact .inr ⟨by simp, by simp⟩) rfl rfl)) ?_
      refine WD_cons (.plain rfl (ox_b2s (l := ((keyS (codeM sa se) pu (rnds n)).take n)) hC (.tmp rfl) (by first | exact .row rfl | exact .vs | exact .sl rfl | exact .nils) take_cutI hkl Tryd.underlying22 Tryd.underlying5 Tryd.underlying9 rfl rfl)) ?_
      refine WD_cons (.plain rfl (oc_move hC (.tmp rfl) rfl rfl)) ?_
      refine WD_cons (.plain rfl (oc_move hC (.tmp rfl) rfl rfl)) ?_
      refine WD_cons (.plain rfl (oc_move hC (.tmp rfl) rfl rfl)) ?_
      refine WD_cons (.plain rfl (oc_move hC (.tmp rfl) rfl rfl)) ?_
      refine WD_cons (.plain rfl (oc_callN hC (.cons (.tmp rfl) (.cons (.tmp rfl) (.cons (.tmp rfl) (.cons (.tmp rfl) .nil)))) (.cons1 (by first | exact .free (by first | exact inSL_I _ | simp) | exact .row rfl rfl (by first | exact inSL_I _ | simp) | exact .nils | exact .sl1 rfl (by first | exact cut_I | rfl) (by first | exact inSL_I _ | simp)) (.cons1 (by first | exact .free (by first | exact inSL_I _ | simp) | exact .row rfl rfl (by first | exact inSL_I _ | simp) | exact .nils | exact .sl1 rfl (by first | exact cut_I | rfl) (by first | exact inSL_I _ | simp)) (.cons1 (by first | exact .free (by first | exact inSL_I _ | simp) | exact .row rfl rfl (by first | exact inSL_I _ | simp) | exact .nils | exact .sl1 rfl (by first | exact cut_I | rfl) (by first | exact inSL_I _ | simp)) (.cons1 (.free (by first | exact inSL_I _ | simp)) (.same (by first | exact inSL_I _ | simp)))))) (rkey_c _ _ _ _ _ _ _ hs ht hp bs8 bt8 bp8 (by omega) (by omega) (by omega) (by omega)) glob_nil (by first | exact inSL_I _ | simp) rfl (by first | exact .inl rfl | exact .inr ⟨by simp, novsL_I _⟩ | exact .inr ⟨by simp, by simp⟩) rfl rfl)) ?_
      refine WD_cons (.plain rfl (ox_b2s (l := ((keyS (codeM sa se) pu (rnds n)).take n)) hC (.tmp rfl) (by first | exact .row rfl | exact .vs | exact .sl rfl | exact .nils) take_cutI hkl Tryd.underlying22 Tryd.underlying5 Tryd.underlying9 rfl rfl)) ?_
      refine WD_cons (.plain rfl (ox_eqs hC (.inl rfl) (.tmp rfl) (.tmp rfl) (r := true) (by simp) rfl rfl)) ?_
      refine WD_cons (.plain rfl (oc_move hC (.tmp rfl) rfl rfl)) ?_
      refine WD_cons (.yes rfl rfl (by decide) rfl (oc_call hC .nil (.same (by first | exact inSL_I _ | simp)) (awake04_c) (glob_cons rfl rfl (by first | exact inSL_I _ | simp) glob_nil) (by first | exact inSL_I _ | simp) (by first | exact .inl rfl | exact .inr (by simp)) rfl rfl)) ?_
      refine WD_cons (.plain rfl (ox_pick hC (.tmp rfl) (.tmp rfl) .cbool (by first | exact pick_t | exact pick_f | rfl) rfl rfl)) ?_
      refine WD_cons (.plain rfl (oc_assign hC (.tmp rfl) rfl rfl)) ?_
      refine WD_nil (by kernel_rfl) ?_
      refine W_ret ?_
      exact fin0 (.cons (.tmp rfl) .nil) rfl trivial
set_option maxRecDepth 20000 in
set_option maxHeartbeats 4000000 in
theorem law_DeriveLess (ns nt np : Nat) (se sa pu : List Int) (hs : se.length = ns) (ht : sa.length = nt) (hp : pu.length = np) (bs8 : B8 se) (bt8 : B8 sa) (bp8 : B8 pu) (n m : Int) : FnC Tryd.prog 6 [(1000000, .rp (I .u32 tbl))] [.vs ns (I .u8 se), .vs nt (I .u8 sa), .vs np (I .u8 pu), .i .i64 n, .i .i64 m] [] [] (.b true) := by
  refine FnC.intro (N0 := 0) (T := 72) (E := [(0, .vs ns (I .u8 se)), (1, .vs nt (I .u8 sa)), (2, .vs np (I .u8 pu)), (3, .i .i64 n), (4, .i .i64 m), (1000000, .rp (I .u32 tbl))]) Tryd.func6 rfl (by decide) mix rfl rfl rfl (by simp) rfl ⟨(by first | exact inSL_I _ | trivial | simp), (by first | exact inSL_I _ | trivial | simp), (by first | exact inSL_I _ | trivial | simp), (by first | exact inSL_I _ | trivial | simp), (by first | exact inSL_I _ | trivial | simp), trivial⟩ (by simp) (by intro S _ _ h; simp) (fun F n0 X w ρ hC => ?_)
  refine W_seq ?_
  refine W_region ?_
  refine WL_cons hC.fn (.plain rfl (oc_assign hC .cbool rfl rfl)) ?_
  refine WL_nil ?_
  refine W_seq ?_
  refine W_seq ?_
  rcases (show (100 < ns) ∨ (ns ≤ 100 ∧ 100 < nt) ∨ (ns ≤ 100 ∧ nt ≤ 100 ∧ 100 < np) ∨ (ns ≤ 100 ∧ nt ≤ 100 ∧ np ≤ 100 ∧ n < 0) ∨ (ns ≤ 100 ∧ nt ≤ 100 ∧ np ≤ 100 ∧ 0 ≤ n ∧ m < n) ∨ (ns ≤ 100 ∧ nt ≤ 100 ∧ np ≤ 100 ∧ 0 ≤ n ∧ n ≤ m ∧ 300 < m) ∨ (0 ≤ n ∧ ns ≤ 100 ∧ nt ≤ 100 ∧ np ≤ 100 ∧ n ≤ m ∧ m ≤ 300) by omega) with h | h | h | h | h | h | h
  ·
    refine W_region ?_
    refine WL_cons hC.fn (.plain rfl (oc_move hC (.tmp rfl) rfl rfl)) ?_
    refine WL_cons hC.fn (.plain rfl (ox_len hC (.tmp rfl) (by first | exact .row rfl | exact .vs | exact .sl rfl | exact .nils) Tryd.underlying22 rfl rfl rfl)) ?_
    refine WL_cons hC.fn (.plain rfl (ox_cmp hC rfl (.tmp rfl) .cint (r := true) (by simp only [cmpI]; exact decide_eq_true (by omega)) rfl rfl)) ?_
    refine WL_cons hC.fn (.plain rfl (oc_move hC (.tmp rfl) rfl rfl)) ?_
    refine WL_cons hC.fn (.no (s1 := ⟨_, (17, .tu []) :: _, _⟩) rfl rfl (by decide) rfl (by decide) (fun t ht => by cases ht; exact ⟨blt_lt rfl, blt_lt rfl⟩) (fun t => setE_cons _ _ _ _) rfl rfl) ?_
    refine WL_cons hC.fn (.no (s1 := ⟨_, (18, .tu []) :: _, _⟩) rfl rfl (by decide) rfl (by decide) (fun t ht => by cases ht; exact ⟨blt_lt rfl, blt_lt rfl⟩) (fun t => setE_cons _ _ _ _) rfl rfl) ?_
    refine WL_cons hC.fn (.no (s1 := ⟨_, (19, .tu []) :: _, _⟩) rfl rfl (by decide) rfl (by decide) (fun t ht => by cases ht; exact ⟨blt_lt rfl, blt_lt rfl⟩) (fun t => setE_cons _ _ _ _) rfl rfl) ?_
    refine WL_cons hC.fn (.plain rfl (ox_pick hC (.tmp rfl) .cbool (.tmp rfl) (by first | exact pick_t | exact pick_f | rfl) rfl rfl)) ?_
    refine WL_cons hC.fn (.plain rfl (oc_move hC (.tmp rfl) rfl rfl)) ?_
    refine WL_cons hC.fn (.no (s1 := ⟨_, (22, .tu []) :: _, _⟩) rfl rfl (by decide) rfl (by decide) (fun t ht => by cases ht; exact ⟨blt_lt rfl, blt_lt rfl⟩) (fun t => setE_cons _ _ _ _) rfl rfl) ?_
    refine WL_cons hC.fn (.no (s1 := ⟨_, (23, .tu []) :: _, _⟩) rfl rfl (by decide) rfl (by decide) (fun t ht => by cases ht; exact ⟨blt_lt rfl, blt_lt rfl⟩) (fun t => setE_cons _ _ _ _) rfl rfl) ?_
    refine WL_cons hC.fn (.no (s1 := ⟨_, (24, .tu []) :: _, _⟩) rfl rfl (by decide) rfl (by decide) (fun t ht => by cases ht; exact ⟨blt_lt rfl, blt_lt rfl⟩) (fun t => setE_cons _ _ _ _) rfl rfl) ?_
    refine WL_cons hC.fn (.plain rfl (ox_pick hC (.tmp rfl) .cbool (.tmp rfl) (by first | exact pick_t | exact pick_f | rfl) rfl rfl)) ?_
    refine WL_cons hC.fn (.plain rfl (oc_move hC (.tmp rfl) rfl rfl)) ?_
    refine WL_cons hC.fn (.no (s1 := ⟨_, (27, .tu []) :: _, _⟩) rfl rfl (by decide) rfl (by decide) (fun t ht => by cases ht; exact ⟨blt_lt rfl, blt_lt rfl⟩) (fun t => setE_cons _ _ _ _) rfl rfl) ?_
    refine WL_cons hC.fn (.no (s1 := ⟨_, (28, .tu []) :: _, _⟩) rfl rfl (by decide) rfl (by decide) (fun t ht => by cases ht; exact ⟨blt_lt rfl, blt_lt rfl⟩) (fun t => setE_cons _ _ _ _) rfl rfl) ?_
    refine WL_cons hC.fn (.plain rfl (ox_pick hC (.tmp rfl) .cbool (.tmp rfl) (by first | exact pick_t | exact pick_f | rfl) rfl rfl)) ?_
    refine WL_cons hC.fn (.plain rfl (oc_move hC (.tmp rfl) rfl rfl)) ?_
    refine WL_cons hC.fn (.no (s1 := ⟨_, (31, .tu []) :: _, _⟩) rfl rfl (by decide) rfl (by decide) (fun t ht => by cases ht; exact ⟨blt_lt rfl, blt_lt rfl⟩) (fun t => setE_cons _ _ _ _) rfl rfl) ?_
    refine WL_cons hC.fn (.no (s1 := ⟨_, (32, .tu []) :: _, _⟩) rfl rfl (by decide) rfl (by decide) (fun t ht => by cases ht; exact ⟨blt_lt rfl, blt_lt rfl⟩) (fun t => setE_cons _ _ _ _) rfl rfl) ?_
    refine WL_cons hC.fn (.no (s1 := ⟨_, (33, .tu []) :: _, _⟩) rfl rfl (by decide) rfl (by decide) (fun t ht => by cases ht; exact ⟨blt_lt rfl, blt_lt rfl⟩) (fun t => setE_cons _ _ _ _) rfl rfl) ?_
    refine WL_cons hC.fn (.plain rfl (ox_pick hC (.tmp rfl) .cbool (.tmp rfl) (by first | exact pick_t | exact pick_f | rfl) rfl rfl)) ?_
    refine WL_cons hC.fn (.plain rfl (oc_move hC (.tmp rfl) rfl rfl)) ?_
    refine WL_cons hC.fn (.no (s1 := ⟨_, (36, .tu []) :: _, _⟩) rfl rfl (by decide) rfl (by decide) (fun t ht => by cases ht; exact ⟨blt_lt rfl, blt_lt rfl⟩) (fun t => setE_cons _ _ _ _) rfl rfl) ?_
    refine WL_cons hC.fn (.no (s1 := ⟨_, (37, .tu []) :: _, _⟩) rfl rfl (by decide) rfl (by decide) (fun t ht => by cases ht; exact ⟨blt_lt rfl, blt_lt rfl⟩) (fun t => setE_cons _ _ _ _) rfl rfl) ?_
    refine WL_cons hC.fn (.plain rfl (ox_pick hC (.tmp rfl) .cbool (.tmp rfl) (by first | exact pick_t | exact pick_f | rfl) rfl rfl)) ?_
    refine WL_nil ?_
    refine W_cond rfl (by decide) (fun _ => ?_) (fun hc => by cases hc)
    refine W_seq ?_
    refine W_region ?_
    refine WL_cons hC.fn (.plain rfl (oc_call hC .nil (.same (by first | exact inSL_I _ | simp)) (awake04_c) (glob_cons rfl rfl (by first | exact inSL_I _ | simp) glob_nil) (by first | exact inSL_I _ | simp) (by first | exact .inl rfl | exact .inr (by simp)) rfl rfl)) ?_
    refine WL_cons hC.fn (.plain rfl (oc_assign hC (.tmp rfl) rfl rfl)) ?_
    refine WL_nil ?_
    refine W_ret ?_
    exact fin0 (.cons (.tmp rfl) .nil) rfl trivial
  ·
    refine W_region ?_
    refine WL_cons hC.fn (.plain rfl (oc_move hC (.tmp rfl) rfl rfl)) ?_
    refine WL_cons hC.fn (.plain rfl (ox_len hC (.tmp rfl) (by first | exact .row rfl | exact .vs | exact .sl rfl | exact .nils) Tryd.underlying22 rfl rfl rfl)) ?_
    refine WL_cons hC.fn (.plain rfl (ox_cmp hC rfl (.tmp rfl) .cint (r := false) (by simp only [cmpI]; exact decide_eq_false (by omega)) rfl rfl)) ?_
    refine WL_cons hC.fn (.plain rfl (oc_move hC (.tmp rfl) rfl rfl)) ?_
    refine WL_cons hC.fn (.yes rfl rfl (by decide) rfl (oc_move hC (.tmp rfl) rfl rfl)) ?_
    refine WL_cons hC.fn (.yes rfl rfl (by decide) rfl (ox_len hC (.tmp rfl) (by first | exact .row rfl | exact .vs | exact .sl rfl | exact .nils) Tryd.underlying22 rfl rfl rfl)) ?_
    refine WL_cons hC.fn (.yes rfl rfl (by decide) rfl (ox_cmp hC rfl (.tmp rfl) .cint (r := true) (by simp only [cmpI]; exact decide_eq_true (by omega)) rfl rfl)) ?_
    refine WL_cons hC.fn (.plain rfl (ox_pick hC (.tmp rfl) .cbool (.tmp rfl) (by first | exact pick_t | exact pick_f | rfl) rfl rfl)) ?_
    refine WL_cons hC.fn (.plain rfl (oc_move hC (.tmp rfl) rfl rfl)) ?_
    refine WL_cons hC.fn (.no (s1 := ⟨_, (22, .tu []) :: _, _⟩) rfl rfl (by decide) rfl (by decide) (fun t ht => by cases ht; exact ⟨blt_lt rfl, blt_lt rfl⟩) (fun t => setE_cons _ _ _ _) rfl rfl) ?_
    refine WL_cons hC.fn (.no (s1 := ⟨_, (23, .tu []) :: _, _⟩) rfl rfl (by decide) rfl (by decide) (fun t ht => by cases ht; exact ⟨blt_lt rfl, blt_lt rfl⟩) (fun t => setE_cons _ _ _ _) rfl rfl) ?_
    refine WL_cons hC.fn (.no (s1 := ⟨_, (24, .tu []) :: _, _⟩) rfl rfl (by decide) rfl (by decide) (fun t ht => by cases ht; exact ⟨blt_lt rfl, blt_lt rfl⟩) (fun t => setE_cons _ _ _ _) rfl rfl) ?_
    refine WL_cons hC.fn (.plain rfl (ox_pick hC (.tmp rfl) .cbool (.tmp rfl) (by first | exact pick_t | exact pick_f | rfl) rfl rfl)) ?_
    refine WL_cons hC.fn (.plain rfl (oc_move hC (.tmp rfl) rfl rfl)) ?_
    refine WL_cons hC.fn (.no (s1 := ⟨_, (27, .tu []) :: _, _⟩) rfl rfl (by decide) rfl (by decide) (fun t ht => by cases ht; exact ⟨blt_lt rfl, blt_lt rfl⟩) (fun t => setE_cons _ _ _ _) rfl rfl) ?_
    refine WL_cons hC.fn (.no (s1 := ⟨_, (28, .tu []) :: _, _⟩) rfl rfl (by decide) rfl (by decide) (fun t ht => by cases ht; exact ⟨blt_lt rfl, blt_lt rfl⟩) (fun t => setE_cons _ _ _ _) rfl rfl) ?_
    refine WL_cons hC.fn (.plain rfl (ox_pick hC (.tmp rfl) .cbool (.tmp rfl) (by first | exact pick_t | exact pick_f | rfl) rfl rfl)) ?_
    refine WL_cons hC.fn (.plain rfl (oc_move hC (.tmp rfl) rfl rfl)) ?_
    refine WL_cons hC.fn (.no (s1 := ⟨_, (31, .tu []) :: _, _⟩) rfl rfl (by decide) rfl (by decide) (fun t ht => by cases ht; exact ⟨blt_lt rfl, blt_lt rfl⟩) (fun t => setE_cons _ _ _ _) rfl rfl) ?_
    refine WL_cons hC.fn (.no (s1 := ⟨_, (32, .tu []) :: _, _⟩) rfl rfl (by decide) rfl (by decide) (fun t ht => by cases ht; exact ⟨blt_lt rfl, blt_lt rfl⟩) (fun t => setE_cons _ _ _ _) rfl rfl) ?_
    refine WL_cons hC.fn (.no (s1 := ⟨_, (33, .tu []) :: _, _⟩) rfl rfl (by decide) rfl (by decide) (fun t ht => by cases ht; exact ⟨blt_lt rfl, blt_lt rfl⟩) (fun t => setE_cons _ _ _ _) rfl rfl) ?_
    refine WL_cons hC.fn (.plain rfl (ox_pick hC (.tmp rfl) .cbool (.tmp rfl) (by first | exact pick_t | exact pick_f | rfl) rfl rfl)) ?_
    refine WL_cons hC.fn (.plain rfl (oc_move hC (.tmp rfl) rfl rfl)) ?_
    refine WL_cons hC.fn (.no (s1 := ⟨_, (36, .tu []) :: _, _⟩) rfl rfl (by decide) rfl (by decide) (fun t ht => by cases ht; exact ⟨blt_lt rfl, blt_lt rfl⟩) (fun t => setE_cons _ _ _ _) rfl rfl) ?_
    refine WL_cons hC.fn (.no (s1 := ⟨_, (37, .tu []) :: _, _⟩) rfl rfl (by decide) rfl (by decide) (fun t ht => by cases ht; exact ⟨blt_lt rfl, blt_lt rfl⟩) (fun t => setE_cons _ _ _ _) rfl rfl) ?_
    refine WL_cons hC.fn (.plain rfl (ox_pick hC (.tmp rfl) .cbool (.tmp rfl) (by first | exact pick_t | exact pick_f | rfl) rfl rfl)) ?_
    refine WL_nil ?_
    refine W_cond rfl (by decide) (fun _ => ?_) (fun hc => by cases hc)
    refine W_seq ?_
    refine W_region ?_
    refine WL_cons hC.fn (.plain rfl (oc_call hC .nil (.same (by first | exact inSL_I _ | simp)) (awake04_c) (glob_cons rfl rfl (by first | exact inSL_I _ | simp) glob_nil) (by first | exact inSL_I _ | simp) (by first | exact .inl rfl | exact .inr (by simp)) rfl rfl)) ?_
    refine WL_cons hC.fn (.plain rfl (oc_assign hC (.tmp rfl) rfl rfl)) ?_
    refine WL_nil ?_
    refine W_ret ?_
    exact fin0 (.cons (.tmp rfl) .nil) rfl trivial
  ·
    refine W_region ?_
    refine WL_cons hC.fn (.plain rfl (oc_move hC (.tmp rfl) rfl rfl)) ?_
    refine WL_cons hC.fn (.plain rfl (ox_len hC (.tmp rfl) (by first | exact .row rfl | exact .vs | exact .sl rfl | exact .nils) Tryd.underlying22 rfl rfl rfl)) ?_
    refine WL_cons hC.fn (.plain rfl (ox_cmp hC rfl (.tmp rfl) .cint (r := false) (by simp only [cmpI]; exact decide_eq_false (by omega)) rfl rfl)) ?_
    refine WL_cons hC.fn (.plain rfl (oc_move hC (.tmp rfl) rfl rfl)) ?_
    refine WL_cons hC.fn (.yes rfl rfl (by decide) rfl (oc_move hC (.tmp rfl) rfl rfl)) ?_
    refine WL_cons hC.fn (.yes rfl rfl (by decide) rfl (ox_len hC (.tmp rfl) (by first | exact .row rfl | exact .vs | exact .sl rfl | exact .nils) Tryd.underlying22 rfl rfl rfl)) ?_
    refine WL_cons hC.fn (.yes rfl rfl (by decide) rfl (ox_cmp hC rfl (.tmp rfl) .cint (r := false) (by simp only [cmpI]; exact decide_eq_false (by omega)) rfl rfl)) ?_
    refine WL_cons hC.fn (.plain rfl (ox_pick hC (.tmp rfl) .cbool (.tmp rfl) (by first | exact pick_t | exact pick_f | rfl) rfl rfl)) ?_
    refine WL_cons hC.fn (.plain rfl (oc_move hC (.tmp rfl) rfl rfl)) ?_
    refine WL_cons hC.fn (.yes rfl rfl (by decide) rfl (oc_move hC (.tmp rfl) rfl rfl)) ?_
    refine WL_cons hC.fn (.yes rfl rfl (by decide) rfl (ox_len hC (.tmp rfl) (by first | exact .row rfl | exact .vs | exact .sl rfl | exact .nils) Tryd.underlying22 rfl rfl rfl)) ?_
    refine WL_cons hC.fn (.yes rfl rfl (by decide) rfl (ox_cmp hC rfl (.tmp rfl) .cint (r := true) (by simp only [cmpI]; exact decide_eq_true (by omega)) rfl rfl)) ?_
    refine WL_cons hC.fn (.plain rfl (ox_pick hC (.tmp rfl) .cbool (.tmp rfl) (by first | exact pick_t | exact pick_f | rfl) rfl rfl)) ?_
    refine WL_cons hC.fn (.plain rfl (oc_move hC (.tmp rfl) rfl rfl)) ?_
    refine WL_cons hC.fn (.no (s1 := ⟨_, (27, .tu []) :: _, _⟩) rfl rfl (by decide) rfl (by decide) (fun t ht => by cases ht; exact ⟨blt_lt rfl, blt_lt rfl⟩) (fun t => setE_cons _ _ _ _) rfl rfl) ?_
    refine WL_cons hC.fn (.no (s1 := ⟨_, (28, .tu []) :: _, _⟩) rfl rfl (by decide) rfl (by decide) (fun t ht => by cases ht; exact ⟨blt_lt rfl, blt_lt rfl⟩) (fun t => setE_cons _ _ _ _) rfl rfl) ?_
    refine WL_cons hC.fn (.plain rfl (ox_pick hC (.tmp rfl) .cbool (.tmp rfl) (by first | exact pick_t | exact pick_f | rfl) rfl rfl)) ?_
    refine WL_cons hC.fn (.plain rfl (oc_move hC (.tmp rfl) rfl rfl)) ?_
    refine WL_cons hC.fn (.no (s1 := ⟨_, (31, .tu []) :: _, _⟩) rfl rfl (by decide) rfl (by decide) (fun t ht => by cases ht; exact ⟨blt_lt rfl, blt_lt rfl⟩) (fun t => setE_cons _ _ _ _) rfl rfl) ?_
    refine WL_cons hC.fn (.no (s1 := ⟨_, (32, .tu []) :: _, _⟩) rfl rfl (by decide) rfl (by decide) (fun t ht => by cases ht; exact ⟨blt_lt rfl, blt_lt rfl⟩) (fun t => setE_cons _ _ _ _) rfl rfl) ?_
    refine WL_cons hC.fn (.no (s1 := ⟨_, (33, .tu []) :: _, _⟩) rfl rfl (by decide) rfl (by decide) (fun t ht => by cases ht; exact ⟨blt_lt rfl, blt_lt rfl⟩) (fun t => setE_cons _ _ _ _) rfl rfl) ?_
    refine WL_cons hC.fn (.plain rfl (ox_pick hC (.tmp rfl) .cbool (.tmp rfl) (by first | exact pick_t | exact pick_f | rfl) rfl rfl)) ?_
    refine WL_cons hC.fn (.plain rfl (oc_move hC (.tmp rfl) rfl rfl)) ?_
    refine WL_cons hC.fn (.no (s1 := ⟨_, (36, .tu []) :: _, _⟩) rfl rfl (by decide) rfl (by decide) (fun t ht => by cases ht; exact ⟨blt_lt rfl, blt_lt rfl⟩) (fun t => setE_cons _ _ _ _) rfl rfl) ?_
    refine WL_cons hC.fn (.no (s1 := ⟨_, (37, .tu []) :: _, _⟩) rfl rfl (by decide) rfl (by decide) (fun t ht => by cases ht; exact ⟨blt_lt rfl, blt_lt rfl⟩) (fun t => setE_cons _ _ _ _) rfl rfl) ?_
    refine WL_cons hC.fn (.plain rfl (ox_pick hC (.tmp rfl) .cbool (.tmp rfl) (by first | exact pick_t | exact pick_f | rfl) rfl rfl)) ?_
    refine WL_nil ?_
    refine W_cond rfl (by decide) (fun _ => ?_) (fun hc => by cases hc)
    refine W_seq ?_
    refine W_region ?_
    refine WL_cons hC.fn (.plain rfl (oc_call hC .nil (.same (by first | exact inSL_I _ | simp)) (awake04_c) (glob_cons rfl rfl (by first | exact inSL_I _ | simp) glob_nil) (by first | exact inSL_I _ | simp) (by first | exact .inl rfl | exact .inr (by simp)) rfl rfl)) ?_
    refine WL_cons hC.fn (.plain rfl (oc_assign hC (.tmp rfl) rfl rfl)) ?_
    refine WL_nil ?_
    refine W_ret ?_
    exact fin0 (.cons (.tmp rfl) .nil) rfl trivial
  ·
    refine W_region ?_
    refine WL_cons hC.fn (.plain rfl (oc_move hC (.tmp rfl) rfl rfl)) ?_
    refine WL_cons hC.fn (.plain rfl (ox_len hC (.tmp rfl) (by first | exact .row rfl | exact .vs | exact .sl rfl | exact .nils) Tryd.underlying22 rfl rfl rfl)) ?_
    refine WL_cons hC.fn (.plain rfl (ox_cmp hC rfl (.tmp rfl) .cint (r := false) (by simp only [cmpI]; exact decide_eq_false (by omega)) rfl rfl)) ?_
    refine WL_cons hC.fn (.plain rfl (oc_move hC (.tmp rfl) rfl rfl)) ?_
    refine WL_cons hC.fn (.yes rfl rfl (by decide) rfl (oc_move hC (.tmp rfl) rfl rfl)) ?_
    refine WL_cons hC.fn (.yes rfl rfl (by decide) rfl (ox_len hC (.tmp rfl) (by first | exact .row rfl | exact .vs | exact .sl rfl | exact .nils) Tryd.underlying22 rfl rfl rfl)) ?_
    refine WL_cons hC.fn (.yes rfl rfl (by decide) rfl (ox_cmp hC rfl (.tmp rfl) .cint (r := false) (by simp only [cmpI]; exact decide_eq_false (by omega)) rfl rfl)) ?_
    refine WL_cons hC.fn (.plain rfl (ox_pick hC (.tmp rfl) .cbool (.tmp rfl) (by first | exact pick_t | exact pick_f | rfl) rfl rfl)) ?_
    refine WL_cons hC.fn (.plain rfl (oc_move hC (.tmp rfl) rfl rfl)) ?_
    refine WL_cons hC.fn (.yes rfl rfl (by decide) rfl (oc_move hC (.tmp rfl) rfl rfl)) ?_
    refine WL_cons hC.fn (.yes rfl rfl (by decide) rfl (ox_len hC (.tmp rfl) (by first | exact .row rfl | exact .vs | exact .sl rfl | exact .nils) Tryd.underlying22 rfl rfl rfl)) ?_
    refine WL_cons hC.fn (.yes rfl rfl (by decide) rfl (ox_cmp hC rfl (.tmp rfl) .cint (r := false) (by simp only [cmpI]; exact decide_eq_false (by omega)) rfl rfl)) ?_
    refine WL_cons hC.fn (.plain rfl (ox_pick hC (.tmp rfl) .cbool (.tmp rfl) (by first | exact pick_t | exact pick_f | rfl) rfl rfl)) ?_
    refine WL_cons hC.fn (.plain rfl (oc_move hC (.tmp rfl) rfl rfl)) ?_
    refine WL_cons hC.fn (.yes rfl rfl (by decide) rfl (oc_move hC (.tmp rfl) rfl rfl)) ?_
    refine WL_cons hC.fn (.yes rfl rfl (by decide) rfl (ox_cmp hC rfl (.tmp rfl) .cint (r := true) (by simp only [cmpI]; exact decide_eq_true (by omega)) rfl rfl)) ?_
    refine WL_cons hC.fn (.plain rfl (ox_pick hC (.tmp rfl) .cbool (.tmp rfl) (by first | exact pick_t | exact pick_f | rfl) rfl rfl)) ?_
    refine WL_cons hC.fn (.plain rfl (oc_move hC (.tmp rfl) rfl rfl)) ?_
    refine WL_cons hC.fn (.no (s1 := ⟨_, (31, .tu []) :: _, _⟩) rfl rfl (by decide) rfl (by decide) (fun t ht => by cases ht; exact ⟨blt_lt rfl, blt_lt rfl⟩) (fun t => setE_cons _ _ _ _) rfl rfl) ?_
    refine WL_cons hC.fn (.no (s1 := ⟨_, (32, .tu []) :: _, _⟩) rfl rfl (by decide) rfl (by decide) (fun t ht => by cases ht; exact ⟨blt_lt rfl, blt_lt rfl⟩) (fun t => setE_cons _ _ _ _) rfl rfl) ?_
    refine WL_cons hC.fn (.no (s1 := ⟨_, (33, .tu []) :: _, _⟩) rfl rfl (by decide) rfl (by decide) (fun t ht => by cases ht; exact ⟨blt_lt rfl, blt_lt rfl⟩) (fun t => setE_cons _ _ _ _) rfl rfl) ?_
    refine WL_cons hC.fn (.plain rfl (ox_pick hC (.tmp rfl) .cbool (.tmp rfl) (by first | exact pick_t | exact pick_f | rfl) rfl rfl)) ?_
    refine WL_cons hC.fn (.plain rfl (oc_move hC (.tmp rfl) rfl rfl)) ?_
    refine WL_cons hC.fn (.no (s1 := ⟨_, (36, .tu []) :: _, _⟩) rfl rfl (by decide) rfl (by decide) (fun t ht => by cases ht; exact ⟨blt_lt rfl, blt_lt rfl⟩) (fun t => setE_cons _ _ _ _) rfl rfl) ?_
    refine WL_cons hC.fn (.no (s1 := ⟨_, (37, .tu []) :: _, _⟩) rfl rfl (by decide) rfl (by decide) (fun t ht => by cases ht; exact ⟨blt_lt rfl, blt_lt rfl⟩) (fun t => setE_cons _ _ _ _) rfl rfl) ?_
    refine WL_cons hC.fn (.plain rfl (ox_pick hC (.tmp rfl) .cbool (.tmp rfl) (by first | exact pick_t | exact pick_f | rfl) rfl rfl)) ?_
    refine WL_nil ?_
    refine W_cond rfl (by decide) (fun _ => ?_) (fun hc => by cases hc)
    refine W_seq ?_
    refine W_region ?_
    refine WL_cons hC.fn (.plain rfl (oc_call hC .nil (.same (by first | exact inSL_I _ | simp)) (awake04_c) (glob_cons rfl rfl (by first | exact inSL_I _ | simp) glob_nil) (by first | exact inSL_I _ | simp) (by first | exact .inl rfl | exact .inr (by simp)) rfl rfl)) ?_
    refine WL_cons hC.fn (.plain rfl (oc_assign hC (.tmp rfl) rfl rfl)) ?_
    refine WL_nil ?_
    refine W_ret ?_
    exact fin0 (.cons (.tmp rfl) .nil) rfl trivial
  ·
    refine W_region ?_
    refine WL_cons hC.fn (.plain rfl (oc_move hC (.tmp rfl) rfl rfl)) ?_
    refine WL_cons hC.fn (.plain rfl (ox_len hC (.tmp rfl) (by first | exact .row rfl | exact .vs | exact .sl rfl | exact .nils) Tryd.underlying22 rfl rfl rfl)) ?_
    refine WL_cons hC.fn (.plain rfl (ox_cmp hC rfl (.tmp rfl) .cint (r := false) (by simp only [cmpI]; exact decide_eq_false (by omega)) rfl rfl)) ?_
    refine WL_cons hC.fn (.plain rfl (oc_move hC (.tmp rfl) rfl rfl)) ?_
    refine WL_cons hC.fn (.yes rfl rfl (by decide) rfl (oc_move hC (.tmp rfl) rfl rfl)) ?_
    refine WL_cons hC.fn (.yes rfl rfl (by decide) rfl (ox_len hC (.tmp rfl) (by first | exact .row rfl | exact .vs | exact .sl rfl | exact .nils) Tryd.underlying22 rfl rfl rfl)) ?_
    refine WL_cons hC.fn (.yes rfl rfl (by decide) rfl (ox_cmp hC rfl (.tmp rfl) .cint (r := false) (by simp only [cmpI]; exact decide_eq_false (by omega)) rfl rfl)) ?_
    refine WL_cons hC.fn (.plain rfl (ox_pick hC (.tmp rfl) .cbool (.tmp rfl) (by first | exact pick_t | exact pick_f | rfl) rfl rfl)) ?_
    refine WL_cons hC.fn (.plain rfl (oc_move hC (.tmp rfl) rfl rfl)) ?_
    refine WL_cons hC.fn (.yes rfl rfl (by decide) rfl (oc_move hC (.tmp rfl) rfl rfl)) ?_
    refine WL_cons hC.fn (.yes rfl rfl (by decide) rfl (ox_len hC (.tmp rfl) (by first | exact .row rfl | exact .vs | exact .sl rfl | exact .nils) Tryd.underlying22 rfl rfl rfl)) ?_
    refine WL_cons hC.fn (.yes rfl rfl (by decide) rfl (ox_cmp hC rfl (.tmp rfl) .cint (r := false) (by simp only [cmpI]; exact decide_eq_false (by omega)) rfl rfl)) ?_
    refine WL_cons hC.fn (.plain rfl (ox_pick hC (.tmp rfl) .cbool (.tmp rfl) (by first | exact pick_t | exact pick_f | rfl) rfl rfl)) ?_
    refine WL_cons hC.fn (.plain rfl (oc_move hC (.tmp rfl) rfl rfl)) ?_
    refine WL_cons hC.fn (.yes rfl rfl (by decide) rfl (oc_move hC (.tmp rfl) rfl rfl)) ?_
    refine WL_cons hC.fn (.yes rfl rfl (by decide) rfl (ox_cmp hC rfl (.tmp rfl) .cint (r := false) (by simp only [cmpI]; exact decide_eq_false (by omega)) rfl rfl)) ?_
    refine WL_cons hC.fn (.plain rfl (ox_pick hC (.tmp rfl) .cbool (.tmp rfl) (by first | exact pick_t | exact pick_f | rfl) rfl rfl)) ?_
    refine WL_cons hC.fn (.plain rfl (oc_move hC (.tmp rfl) rfl rfl)) ?_
    refine WL_cons hC.fn (.yes rfl rfl (by decide) rfl (oc_move hC (.tmp rfl) rfl rfl)) ?_
    refine WL_cons hC.fn (.yes rfl rfl (by decide) rfl (oc_move hC (.tmp rfl) rfl rfl)) ?_
    refine WL_cons hC.fn (.yes rfl rfl (by decide) rfl (ox_cmp hC rfl (.tmp rfl) (.tmp rfl) (r := true) (by simp only [cmpI]; exact decide_eq_true (by omega)) rfl rfl)) ?_
    refine WL_cons hC.fn (.plain rfl (ox_pick hC (.tmp rfl) .cbool (.tmp rfl) (by first | exact pick_t | exact pick_f | rfl) rfl rfl)) ?_
    refine WL_cons hC.fn (.plain rfl (oc_move hC (.tmp rfl) rfl rfl)) ?_
    refine WL_cons hC.fn (.no (s1 := ⟨_, (36, .tu []) :: _, _⟩) rfl rfl (by decide) rfl (by decide) (fun t ht => by cases ht; exact ⟨blt_lt rfl, blt_lt rfl⟩) (fun t => setE_cons _ _ _ _) rfl rfl) ?_
    refine WL_cons hC.fn (.no (s1 := ⟨_, (37, .tu []) :: _, _⟩) rfl rfl (by decide) rfl (by decide) (fun t ht => by cases ht; exact ⟨blt_lt rfl, blt_lt rfl⟩) (fun t => setE_cons _ _ _ _) rfl rfl) ?_
    refine WL_cons hC.fn (.plain rfl (ox_pick hC (.tmp rfl) .cbool (.tmp rfl) (by first | exact pick_t | exact pick_f | rfl) rfl rfl)) ?_
    refine WL_nil ?_
    refine W_cond rfl (by decide) (fun _ => ?_) (fun hc => by cases hc)
    refine W_seq ?_
    refine W_region ?_
    refine WL_cons hC.fn (.plain rfl (oc_call hC .nil (.same (by first | exact inSL_I _ | simp)) (awake04_c) (glob_cons rfl rfl (by first | exact inSL_I _ | simp) glob_nil) (by first | exact inSL_I _ | simp) (by first | exact .inl rfl | exact .inr (by simp)) rfl rfl)) ?_
    refine WL_cons hC.fn (.plain rfl (oc_assign hC (.tmp rfl) rfl rfl)) ?_
    refine WL_nil ?_
    refine W_ret ?_
    exact fin0 (.cons (.tmp rfl) .nil) rfl trivial
  ·
    refine W_region ?_
    refine WL_cons hC.fn (.plain rfl (oc_move hC (.tmp rfl) rfl rfl)) ?_
    refine WL_cons hC.fn (.plain rfl (ox_len hC (.tmp rfl) (by first | exact .row rfl | exact .vs | exact .sl rfl | exact .nils) Tryd.underlying22 rfl rfl rfl)) ?_
    refine WL_cons hC.fn (.plain rfl (ox_cmp hC rfl (.tmp rfl) .cint (r := false) (by simp only [cmpI]; exact decide_eq_false (by omega)) rfl rfl)) ?_
    refine WL_cons hC.fn (.plain rfl (oc_move hC (.tmp rfl) rfl rfl)) ?_
    refine WL_cons hC.fn (.yes rfl rfl (by decide) rfl (oc_move hC (.tmp rfl) rfl rfl)) ?_
    refine WL_cons hC.fn (.yes rfl rfl (by decide) rfl (ox_len hC (.tmp rfl) (by first | exact .row rfl | exact .vs | exact .sl rfl | exact .nils) Tryd.underlying22 rfl rfl rfl)) ?_
    refine WL_cons hC.fn (.yes rfl rfl (by decide) rfl (ox_cmp hC rfl (.tmp rfl) .cint (r := false) (by simp only [cmpI]; exact decide_eq_false (by omega)) rfl rfl)) ?_
    refine WL_cons hC.fn (.plain rfl (ox_pick hC (.tmp rfl) .cbool (.tmp rfl) (by first | exact pick_t | exact pick_f | rfl) rfl rfl)) ?_
    refine WL_cons hC.fn (.plain rfl (oc_move hC (.tmp rfl) rfl rfl)) ?_
    refine WL_cons hC.fn (.yes rfl rfl (by decide) rfl (oc_move hC (.tmp rfl) rfl rfl)) ?_
    refine WL_cons hC.fn (.yes rfl rfl (by decide) rfl (ox_len hC (.tmp rfl) (by first | exact .row rfl | exact .vs | exact .sl rfl | exact .nils) Tryd.underlying22 rfl rfl rfl)) ?_
    refine WL_cons hC.fn (.yes rfl rfl (by decide) rfl (ox_cmp hC rfl (.tmp rfl) .cint (r := false) (by simp only [cmpI]; exact decide_eq_false (by omega)) rfl rfl)) ?_
    refine WL_cons hC.fn (.plain rfl (ox_pick hC (.tmp rfl) .cbool (.tmp rfl) (by first | exact pick_t | exact pick_f | rfl) rfl rfl)) ?_
    refine WL_cons hC.fn (.plain rfl (oc_move hC (.tmp rfl) rfl rfl)) ?_
    refine WL_cons hC.fn (.yes rfl rfl (by decide) rfl (oc_move hC (.tmp rfl) rfl rfl)) ?_
    refine WL_cons hC.fn (.yes rfl rfl (by decide) rfl (ox_cmp hC rfl (.tmp rfl) .cint (r := false) (by simp only [cmpI]; exact decide_eq_false (by omega)) rfl rfl)) ?_
    refine WL_cons hC.fn (.plain rfl (ox_pick hC (.tmp rfl) .cbool (.tmp rfl) (by first | exact pick_t | exact pick_f | rfl) rfl rfl)) ?_
    refine WL_cons hC.fn (.plain rfl (oc_move hC (.tmp rfl) rfl rfl)) ?_
    refine WL_cons hC.fn (.yes rfl rfl (by decide) rfl (oc_move hC (.tmp rfl) rfl rfl)) ?_
    refine WL_cons hC.fn (.yes rfl rfl (by decide) rfl (oc_move hC (.tmp rfl) rfl rfl)) ?_
    refine WL_cons hC.fn (.yes rfl rfl (by decide) rfl (ox_cmp hC rfl (.tmp rfl) (.tmp rfl) (r := false) (by simp only [cmpI]; exact decide_eq_false (by omega)) rfl rfl)) ?_
    refine WL_cons hC.fn (.plain rfl (ox_pick hC (.tmp rfl) .cbool (.tmp rfl) (by first | exact pick_t | exact pick_f | rfl) rfl rfl)) ?_
    refine WL_cons hC.fn (.plain rfl (oc_move hC (.tmp rfl) rfl rfl)) ?_
    refine WL_cons hC.fn (.yes rfl rfl (by decide) rfl (oc_move hC (.tmp rfl) rfl rfl)) ?_
    refine WL_cons hC.fn (.yes rfl rfl (by decide) rfl (ox_cmp hC rfl (.tmp rfl) .cint (r := true) (by simp only [cmpI]; exact decide_eq_true (by omega)) rfl rfl)) ?_
    refine WL_cons hC.fn (.plain rfl (ox_pick hC (.tmp rfl) .cbool (.tmp rfl) (by first | exact pick_t | exact pick_f | rfl) rfl rfl)) ?_
    refine WL_nil ?_
    refine W_cond rfl (by decide) (fun _ => ?_) (fun hc => by cases hc)
    refine W_seq ?_
    refine W_region ?_
    refine WL_cons hC.fn (.plain rfl (oc_call hC .nil (.same (by first | exact inSL_I _ | simp)) (awake04_c) (glob_cons rfl rfl (by first | exact inSL_I _ | simp) glob_nil) (by first | exact inSL_I _ | simp) (by first | exact .inl rfl | exact .inr (by simp)) rfl rfl)) ?_
    refine WL_cons hC.fn (.plain rfl (oc_assign hC (.tmp rfl) rfl rfl)) ?_
    refine WL_nil ?_
    refine W_ret ?_
    exact fin0 (.cons (.tmp rfl) .nil) rfl trivial
  ·
    obtain ⟨n, rfl⟩ := Int.eq_ofNat_of_zero_le h.1
    obtain ⟨m, rfl⟩ := Int.eq_ofNat_of_zero_le (show 0 ≤ m by omega)
    have hkl := length_keyS_take (p := codeM sa se) (q := pu) (Nat.le_refl n)
    have hkm := length_keyS_take (p := codeM sa se) (q := pu) (show n ≤ m by omega)
    have hke := keyS_less (p := codeM sa se) (q := pu) (show n ≤ m by omega)
    refine W_region ?_
    refine WL_cons hC.fn (.plain rfl (oc_move hC (.tmp rfl) rfl rfl)) ?_
    refine WL_cons hC.fn (.plain rfl (ox_len hC (.tmp rfl) (by first | exact .row rfl | exact .vs | exact .sl rfl | exact .nils) Tryd.underlying22 rfl rfl rfl)) ?_
    refine WL_cons hC.fn (.plain rfl (ox_cmp hC rfl (.tmp rfl) .cint (r := false) (by simp only [cmpI]; exact decide_eq_false (by omega)) rfl rfl)) ?_
    refine WL_cons hC.fn (.plain rfl (oc_move hC (.tmp rfl) rfl rfl)) ?_
    refine WL_cons hC.fn (.yes rfl rfl (by decide) rfl (oc_move hC (.tmp rfl) rfl rfl)) ?_
    refine WL_cons hC.fn (.yes rfl rfl (by decide) rfl (ox_len hC (.tmp rfl) (by first | exact .row rfl | exact .vs | exact .sl rfl | exact .nils) Tryd.underlying22 rfl rfl rfl)) ?_
    refine WL_cons hC.fn (.yes rfl rfl (by decide) rfl (ox_cmp hC rfl (.tmp rfl) .cint (r := false) (by simp only [cmpI]; exact decide_eq_false (by omega)) rfl rfl)) ?_
    refine WL_cons hC.fn (.plain rfl (ox_pick hC (.tmp rfl) .cbool (.tmp rfl) (by first | exact pick_t | exact pick_f | rfl) rfl rfl)) ?_
    refine WL_cons hC.fn (.plain rfl (oc_move hC (.tmp rfl) rfl rfl)) ?_
    refine WL_cons hC.fn (.yes rfl rfl (by decide) rfl (oc_move hC (.tmp rfl) rfl rfl)) ?_
    refine WL_cons hC.fn (.yes rfl rfl (by decide) rfl (ox_len hC (.tmp rfl) (by first | exact .row rfl | exact .vs | exact .sl rfl | exact .nils) Tryd.underlying22 rfl rfl rfl)) ?_
    refine WL_cons hC.fn (.yes rfl rfl (by decide) rfl (ox_cmp hC rfl (.tmp rfl) .cint (r := false) (by simp only [cmpI]; exact decide_eq_false (by omega)) rfl rfl)) ?_
    refine WL_cons hC.fn (.plain rfl (ox_pick hC (.tmp rfl) .cbool (.tmp rfl) (by first | exact pick_t | exact pick_f | rfl) rfl rfl)) ?_
    refine WL_cons hC.fn (.plain rfl (oc_move hC (.tmp rfl) rfl rfl)) ?_
    refine WL_cons hC.fn (.yes rfl rfl (by decide) rfl (oc_move hC (.tmp rfl) rfl rfl)) ?_
    refine WL_cons hC.fn (.yes rfl rfl (by decide) rfl (ox_cmp hC rfl (.tmp rfl) .cint (r := false) (by simp only [cmpI]; exact decide_eq_false (by omega)) rfl rfl)) ?_
    refine WL_cons hC.fn (.plain rfl (ox_pick hC (.tmp rfl) .cbool (.tmp rfl) (by first | exact pick_t | exact pick_f | rfl) rfl rfl)) ?_
    refine WL_cons hC.fn (.plain rfl (oc_move hC (.tmp rfl) rfl rfl)) ?_
    refine WL_cons hC.fn (.yes rfl rfl (by decide) rfl (oc_move hC (.tmp rfl) rfl rfl)) ?_
    refine WL_cons hC.fn (.yes rfl rfl (by decide) rfl (oc_move hC (.tmp rfl) rfl rfl)) ?_
    refine WL_cons hC.fn (.yes rfl rfl (by decide) rfl (ox_cmp hC rfl (.tmp rfl) (.tmp rfl) (r := false) (by simp only [cmpI]; exact decide_eq_false (by omega)) rfl rfl)) ?_
    refine WL_cons hC.fn (.plain rfl (ox_pick hC (.tmp rfl) .cbool (.tmp rfl) (by first | exact pick_t | exact pick_f | rfl) rfl rfl)) ?_
    refine WL_cons hC.fn (.plain rfl (oc_move hC (.tmp rfl) rfl rfl)) ?_
    refine WL_cons hC.fn (.yes rfl rfl (by decide) rfl (oc_move hC (.tmp rfl) rfl rfl)) ?_
    refine WL_cons hC.fn (.yes rfl rfl (by decide) rfl (ox_cmp hC rfl (.tmp rfl) .cint (r := false) (by simp only [cmpI]; exact decide_eq_false (by omega)) rfl rfl)) ?_
    refine WL_cons hC.fn (.plain rfl (ox_pick hC (.tmp rfl) .cbool (.tmp rfl) (by first | exact pick_t | exact pick_f | rfl) rfl rfl)) ?_
    refine WL_nil ?_
    refine W_cond rfl (by decide) (fun hc => by cases hc) (fun _ => ?_)
    refine W_skip ?_
    refine W_seq ?_
    refine W_region ?_
    refine WL_cons hC.fn (.plain rfl (oc_move hC (.tmp rfl) rfl rfl)) ?_
    refine WL_cons hC.fn (.plain rfl (oc_move hC (.tmp rfl) rfl rfl)) ?_
    refine WL_cons hC.fn (.plain rfl (oc_move hC (.tmp rfl) rfl rfl)) ?_
    refine WL_cons hC.fn (.plain rfl (oc_move hC (.tmp rfl) rfl rfl)) ?_
    refine WL_cons hC.fn (.plain rfl (oc_callN hC (.cons (.tmp rfl) (.cons (.tmp rfl) (.cons (.tmp rfl) (.cons (.tmp rfl) .nil)))) (.cons1 (by first | exact .free (by first | exact inSL_I _ | simp) | exact .row rfl rfl (by first | exact inSL_I _ | simp) | exact .nils | exact .sl1 rfl (by first | exact cut_I | rfl) (by first | exact inSL_I _ | simp)) (.cons1 (by first | exact .free (by first | exact inSL_I _ | simp) | exact .row rfl rfl (by first | exact inSL_I _ | simp) | exact .nils | exact .sl1 rfl (by first | exact cut_I | rfl) (by first | exact inSL_I _ | simp)) (.cons1 (by first | exact .free (by first | exact inSL_I _ | simp) | exact .row rfl rfl (by first | exact inSL_I _ | simp) | exact .nils | exact .sl1 rfl (by first | exact cut_I | rfl) (by first | exact inSL_I _ | simp)) (.cons1 (.free (by first | exact inSL_I _ | simp)) (.same (by first | exact inSL_I _ | simp)))))) (key_c _ _ _ n se sa pu hs ht hp bs8 bt8 bp8 (by omega) (by omega) (by omega) (by omega)) (glob_cons rfl rfl (by first | exact inSL_I _ | simp) glob_nil) (by first | exact inSL_I _ | simp) rfl (by first | exact .inl rfl | exact .inr ⟨by simp, novsL_I _⟩ | exact .inr ⟨by simp, by simp⟩) rfl rfl)) ?_
    refine WL_cons hC.fn (.plain rfl (oc_move hC (.tmp rfl) rfl rfl)) ?_
    refine WL_cons hC.fn (.plain rfl (oc_move hC (.tmp rfl) rfl rfl)) ?_
    refine WL_cons hC.fn (.plain rfl (oc_move hC (.tmp rfl) rfl rfl)) ?_
    refine WL_cons hC.fn (.plain rfl (oc_move hC (.tmp rfl) rfl rfl)) ?_
    refine WL_cons hC.fn (.plain rfl (oc_callN hC (.cons (.tmp rfl) (.cons (.tmp rfl) (.cons (.tmp rfl) (.cons (.tmp rfl) .nil)))) (.cons1 (by first | exact .free (by first | exact inSL_I _ | simp) | exact .row rfl rfl (by first | exact inSL_I _ | simp) | exact .nils | exact .sl1 rfl (by first | exact cut_I | rfl) (by first | exact inSL_I _ | simp)) (.cons1 (by first | exact .free (by first | exact inSL_I _ | simp) | exact .row rfl rfl (by first | exact inSL_I _ | simp) | exact .nils | exact .sl1 rfl (by first | exact cut_I | rfl) (by first | exact inSL_I _ | simp)) (.cons1 (by first | exact .free (by first | exact inSL_I _ | simp) | exact .row rfl rfl (by first | exact inSL_I _ | simp) | exact .nils | exact .sl1 rfl (by first | exact cut_I | rfl) (by first | exact inSL_I _ | simp)) (.cons1 (.free (by first | exact inSL_I _ | simp)) (.same (by first | exact inSL_I _ | simp)))))) (key_c _ _ _ m se sa pu hs ht hp bs8 bt8 bp8 (by omega) (by omega) (by omega) (by omega)) (glob_cons rfl rfl (by first | exact inSL_I _ | simp) glob_nil) (by first | exact inSL_I _ | simp) rfl (by first | exact .inl rfl | exact .inr ⟨by simp, novsL_I _⟩ | exact .inr ⟨by simp, by simp⟩) rfl rfl)) ?_
    refine WL_cons hC.fn (.plain rfl (oc_assign hC (.tmp rfl) rfl rfl)) ?_
    refine WL_cons hC.fn (.plain rfl (oc_assign hC (.tmp rfl) rfl rfl)) ?_
    refine WL_nil ?_
    refine W_seq ?_
    refine W_drawD hC ?_
    refine WD_cons (.plain rfl (oc_move hC (.tmp rfl) rfl rfl)) ?_
    refine WD_cons (.plain rfl (ox_len hC (.tmp rfl) (by first | exact .row rfl | exact .vs | exact .sl rfl | exact .nils) Tryd.underlying22 rfl rfl rfl)) ?_
    refine WD_cons (.plain rfl (oc_move hC (.tmp rfl) rfl rfl)) ?_
    refine WD_cons (.plain rfl (ox_cmp hC rfl (.tmp rfl) (.tmp rfl) (r := true) (by simp [cmpI]) rfl rfl)) ?_
    refine WD_cons (.plain rfl (oc_move hC (.tmp rfl) rfl rfl)) ?_
    refine WD_cons (.yes rfl rfl (by decide) rfl (oc_move hC (.tmp rfl) rfl rfl)) ?_
    refine WD_cons (.yes rfl rfl (by decide) rfl (ox_len hC (.tmp rfl) (by first | exact .row rfl | exact .vs | exact .sl rfl | exact .nils) Tryd.underlying22 rfl rfl rfl)) ?_
    refine WD_cons (.yes rfl rfl (by decide) rfl (oc_move hC (.tmp rfl) rfl rfl)) ?_
    refine WD_cons (.yes rfl rfl (by decide) rfl (ox_cmp hC rfl (.tmp rfl) (.tmp rfl) (r := true) (by simp [cmpI]) rfl rfl)) ?_
    refine WD_cons (.plain rfl (ox_pick hC (.tmp rfl) (.tmp rfl) .cbool (by first | exact pick_t | exact pick_f | rfl) rfl rfl)) ?_
    refine WD_cons (.plain rfl (oc_move hC (.tmp rfl) rfl rfl)) ?_
    refine WD_cons (.yes rfl rfl (by decide) rfl (oc_move hC (.tmp rfl) rfl rfl)) ?_
    refine WD_cons (.yes rfl rfl (by decide) rfl (ox_b2s (l := ((keyS (codeM sa se) pu (rnds n)).take n)) hC (.tmp rfl) (by first | exact .row rfl | exact .vs | exact .sl rfl | exact .nils) take_cutI hkl Tryd.underlying22 Tryd.underlying5 Tryd.underlying9 rfl rfl)) ?_
    refine WD_cons (.yes rfl rfl (by decide) rfl (oc_move hC (.tmp rfl) rfl rfl)) ?_
    refine WD_cons (.yes rfl rfl (by decide) rfl (oc_move hC (.tmp rfl) rfl rfl)) ?_
    refine WD_cons (.yes rfl rfl (by decide) rfl (ox_cutS hC (.tmp rfl) .no (.yes (n := n) (.tmp rfl) (by first | rfl | omega | (simp; omega))) idx_22 (by first | exact .row rfl (Nat.mul_one _) | exact .sl rfl | exact .vs (by first | omega | (simp; omega)) | exact .nils) (by first | omega | (simp; omega)) (by first | omega | (simp; omega)) (by first | exact cut_vsI | rfl) rfl rfl)) ?_
    refine WD_cons (.yes rfl rfl (by decide) rfl (ox_b2s (l := ((keyS (codeM sa se) pu (rnds m)).take n)) hC (.tmp rfl) (by first | exact .row rfl | exact .vs | exact .sl rfl | exact .nils) take_cutI hkm Tryd.underlying22 Tryd.underlying5 Tryd.underlying9 rfl rfl)) ?_
    refine WD_cons (.yes rfl rfl (by decide) rfl (ox_eqs hC (.inl rfl) (.tmp rfl) (.tmp rfl) (r := true) (by rw [hke]; simp) rfl rfl)) ?_
    refine WD_cons (.plain rfl (ox_pick hC (.tmp rfl) (.tmp rfl) .cbool (by first | exact pick_t | exact pick_f | rfl) rfl rfl)) ?_
    refine WD_cons (.plain rfl (oc_move hC (.tmp rfl) rfl rfl)) ?_
    refine WD_cons (.yes rfl rfl (by decide) rfl (oc_call hC .nil (.same (by first | exact inSL_I _ | simp)) (awake04_c) (glob_cons rfl rfl (by first | exact inSL_I _ | simp) glob_nil) (by first | exact inSL_I _ | simp) (by first | exact .inl rfl | exact .inr (by simp)) rfl rfl)) ?_
    refine WD_cons (.plain rfl (ox_pick hC (.tmp rfl) (.tmp rfl) .cbool (by first | exact pick_t | exact pick_f | rfl) rfl rfl)) ?_
    refine WD_cons (.plain rfl (oc_assign hC (.tmp rfl) rfl rfl)) ?_
    refine WD_nil (by kernel_rfl) ?_
    refine W_ret ?_
    exact fin0 (.cons (.tmp rfl) .nil) rfl trivial
set_option maxRecDepth 20000 in
set_option maxHeartbeats 4000000 in
theorem law_DeriveSame (na nb : Nat) (a b : List Int) (ha : a.length = na) (hb : b.length = nb) (ba : B8 a) (bb : B8 b) : FnC Tryd.prog 7 [(1000000, .rp (I .u32 tbl))] [.vs na (I .u8 a), .vs nb (I .u8 b)] [] [] (.b true) := by
  refine FnC.intro (N0 := 0) (T := 26) (E := [(0, .vs na (I .u8 a)), (1, .vs nb (I .u8 b)), (1000000, .rp (I .u32 tbl))]) Tryd.func7 rfl (by decide) mix rfl rfl rfl (by simp) rfl ⟨(by first | exact inSL_I _ | trivial | simp), (by first | exact inSL_I _ | trivial | simp), trivial⟩ (by simp) (by intro S _ _ h; simp) (fun F n0 X w ρ hC => ?_)
  refine W_seq ?_
  refine W_region ?_
  refine WL_cons hC.fn (.plain rfl (oc_assign hC .cbool rfl rfl)) ?_
  refine WL_nil ?_
  refine W_seq ?_
  refine W_seq ?_
  rcases (show (2000 < na) ∨ (na ≤ 2000 ∧ 2000 < nb) ∨ (na ≤ 2000 ∧ nb ≤ 2000) by omega) with h | h | h
  ·
    refine W_region ?_
    refine WL_cons hC.fn (.plain rfl (oc_move hC (.tmp rfl) rfl rfl)) ?_
    refine WL_cons hC.fn (.plain rfl (ox_len hC (.tmp rfl) (by first | exact .row rfl | exact .vs | exact .sl rfl | exact .nils) Tryd.underlying22 rfl rfl rfl)) ?_
    refine WL_cons hC.fn (.plain rfl (ox_cmp hC rfl (.tmp rfl) .cint (r := true) (by simp only [cmpI]; exact decide_eq_true (by omega)) rfl rfl)) ?_
    refine WL_cons hC.fn (.plain rfl (oc_move hC (.tmp rfl) rfl rfl)) ?_
    refine WL_cons hC.fn (.no (s1 := ⟨_, (9, .tu []) :: _, _⟩) rfl rfl (by decide) rfl (by decide) (fun t ht => by cases ht; exact ⟨blt_lt rfl, blt_lt rfl⟩) (fun t => setE_cons _ _ _ _) rfl rfl) ?_
    refine WL_cons hC.fn (.no (s1 := ⟨_, (10, .tu []) :: _, _⟩) rfl rfl (by decide) rfl (by decide) (fun t ht => by cases ht; exact ⟨blt_lt rfl, blt_lt rfl⟩) (fun t => setE_cons _ _ _ _) rfl rfl) ?_
    refine WL_cons hC.fn (.no (s1 := ⟨_, (11, .tu []) :: _, _⟩) rfl rfl (by decide) rfl (by decide) (fun t ht => by cases ht; exact ⟨blt_lt rfl, blt_lt rfl⟩) (fun t => setE_cons _ _ _ _) rfl rfl) ?_
    refine WL_cons hC.fn (.plain rfl (ox_pick hC (.tmp rfl) .cbool (.tmp rfl) (by first | exact pick_t | exact pick_f | rfl) rfl rfl)) ?_
    refine WL_nil ?_
    refine W_cond rfl (by decide) (fun _ => ?_) (fun hc => by cases hc)
    refine W_seq ?_
    refine W_region ?_
    refine WL_cons hC.fn (.plain rfl (oc_call hC .nil (.same (by first | exact inSL_I _ | simp)) (awake04_c) (glob_cons rfl rfl (by first | exact inSL_I _ | simp) glob_nil) (by first | exact inSL_I _ | simp) (by first | exact .inl rfl | exact .inr (by simp)) rfl rfl)) ?_
    refine WL_cons hC.fn (.plain rfl (oc_assign hC (.tmp rfl) rfl rfl)) ?_
    refine WL_nil ?_
    refine W_ret ?_
    exact fin0 (.cons (.tmp rfl) .nil) rfl trivial
  ·
    refine W_region ?_
    refine WL_cons hC.fn (.plain rfl (oc_move hC (.tmp rfl) rfl rfl)) ?_
    refine WL_cons hC.fn (.plain rfl (ox_len hC (.tmp rfl) (by first | exact .row rfl | exact .vs | exact .sl rfl | exact .nils) Tryd.underlying22 rfl rfl rfl)) ?_
    refine WL_cons hC.fn (.plain rfl (ox_cmp hC rfl (.tmp rfl) .cint (r := false) (by simp only [cmpI]; exact decide_eq_false (by omega)) rfl rfl)) ?_
    refine WL_cons hC.fn (.plain rfl (oc_move hC (.tmp rfl) rfl rfl)) ?_
    refine WL_cons hC.fn (.yes rfl rfl (by decide) rfl (oc_move hC (.tmp rfl) rfl rfl)) ?_
    refine WL_cons hC.fn (.yes rfl rfl (by decide) rfl (ox_len hC (.tmp rfl) (by first | exact .row rfl | exact .vs | exact .sl rfl | exact .nils) Tryd.underlying22 rfl rfl rfl)) ?_
    refine WL_cons hC.fn (.yes rfl rfl (by decide) rfl (ox_cmp hC rfl (.tmp rfl) .cint (r := true) (by simp only [cmpI]; exact decide_eq_true (by omega)) rfl rfl)) ?_
    refine WL_cons hC.fn (.plain rfl (ox_pick hC (.tmp rfl) .cbool (.tmp rfl) (by first | exact pick_t | exact pick_f | rfl) rfl rfl)) ?_
    refine WL_nil ?_
    refine W_cond rfl (by decide) (fun _ => ?_) (fun hc => by cases hc)
    refine W_seq ?_
    refine W_region ?_
    refine WL_cons hC.fn (.plain rfl (oc_call hC .nil (.same (by first | exact inSL_I _ | simp)) (awake04_c) (glob_cons rfl rfl (by first | exact inSL_I _ | simp) glob_nil) (by first | exact inSL_I _ | simp) (by first | exact .inl rfl | exact .inr (by simp)) rfl rfl)) ?_
    refine WL_cons hC.fn (.plain rfl (oc_assign hC (.tmp rfl) rfl rfl)) ?_
    refine WL_nil ?_
    refine W_ret ?_
    exact fin0 (.cons (.tmp rfl) .nil) rfl trivial
  ·
    refine W_region ?_
    refine WL_cons hC.fn (.plain rfl (oc_move hC (.tmp rfl) rfl rfl)) ?_
    refine WL_cons hC.fn (.plain rfl (ox_len hC (.tmp rfl) (by first | exact .row rfl | exact .vs | exact .sl rfl | exact .nils) Tryd.underlying22 rfl rfl rfl)) ?_
    refine WL_cons hC.fn (.plain rfl (ox_cmp hC rfl (.tmp rfl) .cint (r := false) (by simp only [cmpI]; exact decide_eq_false (by omega)) rfl rfl)) ?_
    refine WL_cons hC.fn (.plain rfl (oc_move hC (.tmp rfl) rfl rfl)) ?_
    refine WL_cons hC.fn (.yes rfl rfl (by decide) rfl (oc_move hC (.tmp rfl) rfl rfl)) ?_
    refine WL_cons hC.fn (.yes rfl rfl (by decide) rfl (ox_len hC (.tmp rfl) (by first | exact .row rfl | exact .vs | exact .sl rfl | exact .nils) Tryd.underlying22 rfl rfl rfl)) ?_
    refine WL_cons hC.fn (.yes rfl rfl (by decide) rfl (ox_cmp hC rfl (.tmp rfl) .cint (r := false) (by simp only [cmpI]; exact decide_eq_false (by omega)) rfl rfl)) ?_
    refine WL_cons hC.fn (.plain rfl (ox_pick hC (.tmp rfl) .cbool (.tmp rfl) (by first | exact pick_t | exact pick_f | rfl) rfl rfl)) ?_
    refine WL_nil ?_
    refine W_cond rfl (by decide) (fun hc => by cases hc) (fun _ => ?_)
    refine W_skip ?_
    refine W_seq ?_
    refine W_drawD hC ?_
    refine WD_cons (.plain rfl (oc_move hC (.tmp rfl) rfl rfl)) ?_
    refine WD_cons (.plain rfl (oc_move hC (.tmp rfl) rfl rfl)) ?_
    refine WD_cons (.plain rfl (oc_call hC (.cons (.tmp rfl) (.cons (.tmp rfl) .nil)) (.cons1 (by first | exact .free (by first | exact inSL_I _ | simp) | exact .row rfl rfl (by first | exact inSL_I _ | simp) | exact .nils | exact .sl1 rfl (by first | exact cut_I | rfl) (by first | exact inSL_I _ | simp)) (.cons1 (by first | exact .free (by first | exact inSL_I _ | simp) | exact .row rfl rfl (by first | exact inSL_I _ | simp) | exact .nils | exact .sl1 rfl (by first | exact cut_I | rfl) (by first | exact inSL_I _ | simp)) (.same (by first | exact inSL_I _ | simp)))) (same_c _ _ _ _ ha hb ba bb (by omega) (by omega)) glob_nil (by first | exact inSL_I _ | simp) (by first | exact .inl rfl | exact .inr (by simp)) rfl rfl)) ?_
    refine WD_cons (.plain rfl (oc_move hC (.tmp rfl) rfl rfl)) ?_
    refine WD_cons (.plain rfl (ox_b2s hC (.tmp rfl) (by first | exact .row rfl | exact .vs | exact .sl rfl | exact .nils) (by first | exact take_allI (by first | assumption | rfl | (simp; omega) | omega) | exact take_cutI | exact take_takeI) (by first | assumption | rfl | omega | (simp; omega)) Tryd.underlying22 Tryd.underlying5 Tryd.underlying9 rfl rfl)) ?_
    refine WD_cons (.plain rfl (oc_move hC (.tmp rfl) rfl rfl)) ?_
    refine WD_cons (.plain rfl (ox_b2s hC (.tmp rfl) (by first | exact .row rfl | exact .vs | exact .sl rfl | exact .nils) (by first | exact take_allI (by first | assumption | rfl | (simp; omega) | omega) | exact take_cutI | exact take_takeI) (by first | assumption | rfl | omega | (simp; omega)) Tryd.underlying22 Tryd.underlying5 Tryd.underlying9 rfl rfl)) ?_
    refine WD_cons (.plain rfl (ox_eqs hC (.inl rfl) (.tmp rfl) (.tmp rfl) rfl rfl rfl)) ?_
    refine WD_cons (.plain rfl (oc_eqb (r := true) hC (.inl rfl) Tryd.underlying4 (.tmp rfl) (.tmp rfl) (same_bs ba bb) rfl rfl)) ?_
    refine WD_cons (.plain rfl (oc_move hC (.tmp rfl) rfl rfl)) ?_
    refine WD_cons (.yes rfl rfl (by decide) rfl (oc_call hC .nil (.same (by first | exact inSL_I _ | simp)) (awake04_c) (glob_cons rfl rfl (by first | exact inSL_I _ | simp) glob_nil) (by first | exact inSL_I _ | simp) (by first | exact .inl rfl | exact .inr (by simp)) rfl rfl)) ?_
    refine WD_cons (.plain rfl (ox_pick hC (.tmp rfl) (.tmp rfl) .cbool (by first | exact pick_t | exact pick_f | rfl) rfl rfl)) ?_
    refine WD_cons (.plain rfl (oc_assign hC (.tmp rfl) rfl rfl)) ?_
    refine WD_nil (by kernel_rfl) ?_
    refine W_ret ?_
    exact fin0 (.cons (.tmp rfl) .nil) rfl trivial
set_option maxRecDepth 20000 in
set_option maxHeartbeats 4000000 in
theorem law_DeriveLong (n m mo : Nat) (key b : List Int) (hn : key.length = n) (hm : b.length = m) (hk : B8 key) (hb : B8 b) (hmo : mo < 256) : FnC Tryd.prog 8 [(1000000, .rp (I .u32 tbl))] [.vs n (I .u8 key), .vs m (I .u8 b), .i .u8 mo] [] [] (.b true) := by
  have hlc := length_code key b
  have hbc := B8_code key b
  refine FnC.intro (N0 := 0) (T := 49) (E := [(0, .vs n (I .u8 key)), (1, .vs m (I .u8 b)), (2, .i .u8 mo), (1000000, .rp (I .u32 tbl))]) Tryd.func8 rfl (by decide) mix rfl rfl rfl (by simp) rfl ⟨(by first | exact inSL_I _ | trivial | simp), (by first | exact inSL_I _ | trivial | simp), (by first | exact inSL_I _ | trivial | simp), trivial⟩ (by simp) (by intro S _ _ h; simp) (fun F n0 X w ρ hC => ?_)
  refine W_seq ?_
  refine W_region ?_
  refine WL_cons hC.fn (.plain rfl (oc_assign hC .cbool rfl rfl)) ?_
  refine WL_nil ?_
  refine W_seq ?_
  refine W_seq ?_
  rcases (show (200 < n) ∨ (n ≤ 200 ∧ 200 < m) ∨ (n ≤ 200 ∧ m ≤ 200) by omega) with h | h | h
  ·
    refine W_region ?_
    refine WL_cons hC.fn (.plain rfl (oc_move hC (.tmp rfl) rfl rfl)) ?_
    refine WL_cons hC.fn (.plain rfl (ox_len hC (.tmp rfl) (by first | exact .row rfl | exact .vs | exact .sl rfl | exact .nils) Tryd.underlying22 rfl rfl rfl)) ?_
    refine WL_cons hC.fn (.plain rfl (ox_cmp hC rfl (.tmp rfl) .cint (r := true) (by simp only [cmpI]; exact decide_eq_true (by omega)) rfl rfl)) ?_
    refine WL_cons hC.fn (.plain rfl (oc_move hC (.tmp rfl) rfl rfl)) ?_
    refine WL_cons hC.fn (.no (s1 := ⟨_, (13, .tu []) :: _, _⟩) rfl rfl (by decide) rfl (by decide) (fun t ht => by cases ht; exact ⟨blt_lt rfl, blt_lt rfl⟩) (fun t => setE_cons _ _ _ _) rfl rfl) ?_
    refine WL_cons hC.fn (.no (s1 := ⟨_, (14, .tu []) :: _, _⟩) rfl rfl (by decide) rfl (by decide) (fun t ht => by cases ht; exact ⟨blt_lt rfl, blt_lt rfl⟩) (fun t => setE_cons _ _ _ _) rfl rfl) ?_
    refine WL_cons hC.fn (.no (s1 := ⟨_, (15, .tu []) :: _, _⟩) rfl rfl (by decide) rfl (by decide) (fun t ht => by cases ht; exact ⟨blt_lt rfl, blt_lt rfl⟩) (fun t => setE_cons _ _ _ _) rfl rfl) ?_
    refine WL_cons hC.fn (.plain rfl (ox_pick hC (.tmp rfl) .cbool (.tmp rfl) (by first | exact pick_t | exact pick_f | rfl) rfl rfl)) ?_
    refine WL_nil ?_
    refine W_cond rfl (by decide) (fun _ => ?_) (fun hc => by cases hc)
    refine W_seq ?_
    refine W_region ?_
    refine WL_cons hC.fn (.plain rfl (oc_call hC .nil (.same (by first | exact inSL_I _ | simp)) (awake04_c) (glob_cons rfl rfl (by first | exact inSL_I _ | simp) glob_nil) (by first | exact inSL_I _ | simp) (by first | exact .inl rfl | exact .inr (by simp)) rfl rfl)) ?_
    refine WL_cons hC.fn (.plain rfl (oc_assign hC (.tmp rfl) rfl rfl)) ?_
    refine WL_nil ?_
    refine W_ret ?_
    exact fin0 (.cons (.tmp rfl) .nil) rfl trivial
  ·
    refine W_region ?_
    refine WL_cons hC.fn (.plain rfl (oc_move hC (.tmp rfl) rfl rfl)) ?_
    refine WL_cons hC.fn (.plain rfl (ox_len hC (.tmp rfl) (by first | exact .row rfl | exact .vs | exact .sl rfl | exact .nils) Tryd.underlying22 rfl rfl rfl)) ?_
    refine WL_cons hC.fn (.plain rfl (ox_cmp hC rfl (.tmp rfl) .cint (r := false) (by simp only [cmpI]; exact decide_eq_false (by omega)) rfl rfl)) ?_
    refine WL_cons hC.fn (.plain rfl (oc_move hC (.tmp rfl) rfl rfl)) ?_
    refine WL_cons hC.fn (.yes rfl rfl (by decide) rfl (oc_move hC (.tmp rfl) rfl rfl)) ?_
    refine WL_cons hC.fn (.yes rfl rfl (by decide) rfl (ox_len hC (.tmp rfl) (by first | exact .row rfl | exact .vs | exact .sl rfl | exact .nils) Tryd.underlying22 rfl rfl rfl)) ?_
    refine WL_cons hC.fn (.yes rfl rfl (by decide) rfl (ox_cmp hC rfl (.tmp rfl) .cint (r := true) (by simp only [cmpI]; exact decide_eq_true (by omega)) rfl rfl)) ?_
    refine WL_cons hC.fn (.plain rfl (ox_pick hC (.tmp rfl) .cbool (.tmp rfl) (by first | exact pick_t | exact pick_f | rfl) rfl rfl)) ?_
    refine WL_nil ?_
    refine W_cond rfl (by decide) (fun _ => ?_) (fun hc => by cases hc)
    refine W_seq ?_
    refine W_region ?_
    refine WL_cons hC.fn (.plain rfl (oc_call hC .nil (.same (by first | exact inSL_I _ | simp)) (awake04_c) (glob_cons rfl rfl (by first | exact inSL_I _ | simp) glob_nil) (by first | exact inSL_I _ | simp) (by first | exact .inl rfl | exact .inr (by simp)) rfl rfl)) ?_
    refine WL_cons hC.fn (.plain rfl (oc_assign hC (.tmp rfl) rfl rfl)) ?_
    refine WL_nil ?_
    refine W_ret ?_
    exact fin0 (.cons (.tmp rfl) .nil) rfl trivial
  ·
    refine W_region ?_
    refine WL_cons hC.fn (.plain rfl (oc_move hC (.tmp rfl) rfl rfl)) ?_
    refine WL_cons hC.fn (.plain rfl (ox_len hC (.tmp rfl) (by first | exact .row rfl | exact .vs | exact .sl rfl | exact .nils) Tryd.underlying22 rfl rfl rfl)) ?_
    refine WL_cons hC.fn (.plain rfl (ox_cmp hC rfl (.tmp rfl) .cint (r := false) (by simp only [cmpI]; exact decide_eq_false (by omega)) rfl rfl)) ?_
    refine WL_cons hC.fn (.plain rfl (oc_move hC (.tmp rfl) rfl rfl)) ?_
    refine WL_cons hC.fn (.yes rfl rfl (by decide) rfl (oc_move hC (.tmp rfl) rfl rfl)) ?_
    refine WL_cons hC.fn (.yes rfl rfl (by decide) rfl (ox_len hC (.tmp rfl) (by first | exact .row rfl | exact .vs | exact .sl rfl | exact .nils) Tryd.underlying22 rfl rfl rfl)) ?_
    refine WL_cons hC.fn (.yes rfl rfl (by decide) rfl (ox_cmp hC rfl (.tmp rfl) .cint (r := false) (by simp only [cmpI]; exact decide_eq_false (by omega)) rfl rfl)) ?_
    refine WL_cons hC.fn (.plain rfl (ox_pick hC (.tmp rfl) .cbool (.tmp rfl) (by first | exact pick_t | exact pick_f | rfl) rfl rfl)) ?_
    refine WL_nil ?_
    refine W_cond rfl (by decide) (fun hc => by cases hc) (fun _ => ?_)
    refine W_skip ?_
    refine W_seq ?_
    refine W_region ?_
    refine WL_cons hC.fn (.plain rfl (oc_move hC (.tmp rfl) rfl rfl)) ?_
    refine WL_cons hC.fn (.plain rfl (ox_len hC (.tmp rfl) (by first | exact .row rfl | exact .vs | exact .sl rfl | exact .nils) Tryd.underlying22 rfl rfl rfl)) ?_
    refine WL_cons hC.fn (.plain rfl (oc_move hC (.tmp rfl) rfl rfl)) ?_
    refine WL_cons hC.fn (.plain rfl (oc_conv hC (.tmp rfl) rfl Tryd.underlying3 (by first | exact i64_conv (by omega) | rfl) rfl rfl)) ?_
    refine WL_cons hC.fn (.plain rfl (oc_div hC (.inr rfl) (.tmp rfl) .cint (by first | decide | omega) (r := ((mo % 65 : Nat) : Int)) (nrem (y := 65)) rfl rfl)) ?_
    refine WL_cons hC.fn (.plain rfl (oc_bin hC rfl (.tmp rfl) (.tmp rfl) (r := ((n + mo % 65 : Nat) : Int)) (nadd (by omega)) rfl rfl)) ?_
    refine WL_cons hC.fn (.plain rfl (oc_assign hC (.tmp rfl) rfl rfl)) ?_
    refine WL_nil ?_
    refine W_seq ?_
    refine W_seq ?_
    rcases (show 64 < n ∨ (n ≤ 64 ∧ 64 < n + mo % 65) ∨ (n ≤ 64 ∧ n + mo % 65 ≤ 64) by omega) with h2 | h2 | h2
    ·
      refine W_region ?_
      refine WL_cons hC.fn (.plain rfl (oc_move hC (.tmp rfl) rfl rfl)) ?_
      refine WL_cons hC.fn (.plain rfl (ox_len hC (.tmp rfl) (by first | exact .row rfl | exact .vs | exact .sl rfl | exact .nils) Tryd.underlying22 rfl rfl rfl)) ?_
      refine WL_cons hC.fn (.plain rfl (ox_cmp hC rfl (.tmp rfl) .cint (r := true) (by simp only [cmpI]; exact decide_eq_true (by omega)) rfl rfl)) ?_
      refine WL_cons hC.fn (.plain rfl (oc_move hC (.tmp rfl) rfl rfl)) ?_
      refine WL_cons hC.fn (.no (s1 := ⟨_, (28, .tu []) :: _, _⟩) rfl rfl (by decide) rfl (by decide) (fun t ht => by cases ht; exact ⟨blt_lt rfl, blt_lt rfl⟩) (fun t => setE_cons _ _ _ _) rfl rfl) ?_
      refine WL_cons hC.fn (.no (s1 := ⟨_, (29, .tu []) :: _, _⟩) rfl rfl (by decide) rfl (by decide) (fun t ht => by cases ht; exact ⟨blt_lt rfl, blt_lt rfl⟩) (fun t => setE_cons _ _ _ _) rfl rfl) ?_
      refine WL_cons hC.fn (.plain rfl (ox_pick hC (.tmp rfl) .cbool (.tmp rfl) (by first | exact pick_t | exact pick_f | rfl) rfl rfl)) ?_
      refine WL_nil ?_
      refine W_cond rfl (by decide) (fun _ => ?_) (fun hc => by cases hc)
      refine W_seq ?_
      refine W_region ?_
      refine WL_cons hC.fn (.plain rfl (oc_call hC .nil (.same (by first | exact inSL_I _ | simp)) (awake04_c) (glob_cons rfl rfl (by first | exact inSL_I _ | simp) glob_nil) (by first | exact inSL_I _ | simp) (by first | exact .inl rfl | exact .inr (by simp)) rfl rfl)) ?_
      refine WL_cons hC.fn (.plain rfl (oc_assign hC (.tmp rfl) rfl rfl)) ?_
      refine WL_nil ?_
      refine W_ret ?_
      exact fin0 (.cons (.tmp rfl) .nil) rfl trivial
    ·
      refine W_region ?_
      refine WL_cons hC.fn (.plain rfl (oc_move hC (.tmp rfl) rfl rfl)) ?_
      refine WL_cons hC.fn (.plain rfl (ox_len hC (.tmp rfl) (by first | exact .row rfl | exact .vs | exact .sl rfl | exact .nils) Tryd.underlying22 rfl rfl rfl)) ?_
      refine WL_cons hC.fn (.plain rfl (ox_cmp hC rfl (.tmp rfl) .cint (r := false) (by simp only [cmpI]; exact decide_eq_false (by omega)) rfl rfl)) ?_
      refine WL_cons hC.fn (.plain rfl (oc_move hC (.tmp rfl) rfl rfl)) ?_
      refine WL_cons hC.fn (.yes rfl rfl (by decide) rfl (oc_move hC (.tmp rfl) rfl rfl)) ?_
      refine WL_cons hC.fn (.yes rfl rfl (by decide) rfl (ox_cmp hC rfl (.tmp rfl) .cint (r := true) (by simp only [cmpI]; exact decide_eq_true (by omega)) rfl rfl)) ?_
      refine WL_cons hC.fn (.plain rfl (ox_pick hC (.tmp rfl) .cbool (.tmp rfl) (by first | exact pick_t | exact pick_f | rfl) rfl rfl)) ?_
      refine WL_nil ?_
      refine W_cond rfl (by decide) (fun _ => ?_) (fun hc => by cases hc)
      refine W_seq ?_
      refine W_region ?_
      refine WL_cons hC.fn (.plain rfl (oc_call hC .nil (.same (by first | exact inSL_I _ | simp)) (awake04_c) (glob_cons rfl rfl (by first | exact inSL_I _ | simp) glob_nil) (by first | exact inSL_I _ | simp) (by first | exact .inl rfl | exact .inr (by simp)) rfl rfl)) ?_
      refine WL_cons hC.fn (.plain rfl (oc_assign hC (.tmp rfl) rfl rfl)) ?_
      refine WL_nil ?_
      refine W_ret ?_
      exact fin0 (.cons (.tmp rfl) .nil) rfl trivial
    ·
      refine W_region ?_
      refine WL_cons hC.fn (.plain rfl (oc_move hC (.tmp rfl) rfl rfl)) ?_
      refine WL_cons hC.fn (.plain rfl (ox_len hC (.tmp rfl) (by first | exact .row rfl | exact .vs | exact .sl rfl | exact .nils) Tryd.underlying22 rfl rfl rfl)) ?_
      refine WL_cons hC.fn (.plain rfl (ox_cmp hC rfl (.tmp rfl) .cint (r := false) (by simp only [cmpI]; exact decide_eq_false (by omega)) rfl rfl)) ?_
      refine WL_cons hC.fn (.plain rfl (oc_move hC (.tmp rfl) rfl rfl)) ?_
      refine WL_cons hC.fn (.yes rfl rfl (by decide) rfl (oc_move hC (.tmp rfl) rfl rfl)) ?_
      refine WL_cons hC.fn (.yes rfl rfl (by decide) rfl (ox_cmp hC rfl (.tmp rfl) .cint (r := false) (by simp only [cmpI]; exact decide_eq_false (by omega)) rfl rfl)) ?_
      refine WL_cons hC.fn (.plain rfl (ox_pick hC (.tmp rfl) .cbool (.tmp rfl) (by first | exact pick_t | exact pick_f | rfl) rfl rfl)) ?_
      refine WL_nil ?_
      refine W_cond rfl (by decide) (fun hc => by cases hc) (fun _ => ?_)
      refine W_skip ?_
      refine W_seq ?_
      refine W_region ?_
      refine WL_cons hC.fn (.plain rfl (oc_move hC (.tmp rfl) rfl rfl)) ?_
      refine WL_cons hC.fn (.plain rfl (ox_make (n := (n + mo % 65)) (cs' := I .u8 (List.replicate (n + mo % 65) 0)) hC (.tmp rfl) (.tmp rfl) (by first | rfl | omega) (by first | rfl | omega) Tryd.underlying22 cells_5 bytes_5 zero_5 (by decide) (by simp only [maxLen]; omega) (by omega) (by first | exact zeros_I | rfl) rfl rfl)) ?_
      refine WL_cons hC.fn (.plain rfl (oc_assign hC (.tmp rfl) rfl rfl)) ?_
      refine WL_nil ?_
      refine W_seq ?_
      refine W_region ?_
      refine WL_cons hC.fn (.plain rfl (oc_move hC (.tmp rfl) rfl rfl)) ?_
      refine WL_cons hC.fn (.plain rfl (oc_move hC (.tmp rfl) rfl rfl)) ?_
      refine WL_cons hC.fn (.plain rfl (ox_copy (us := I .u8 key) (cnt := n) (bk' := .row 5 1 (n + mo % 65) (I .u8 (key ++ List.replicate (mo % 65) 0))) hC (.tmp rfl) (by first | exact .row rfl | exact .sl rfl) (.tmp rfl) (by first | exact .row rfl | exact .vs | exact .sl rfl | exact .nils) rfl Tryd.underlying22 size_5 (Nat.min_eq_left (by omega)) (take_allI hn) (by rw [length_I, hn]) (by first | exact one_takeI | exact one_I | rfl) (by first | (simp; done) | (simp; omega)) (put_grow hn) (by first | exact .here | exact .there (.here) rfl | exact .there (.there (.here) rfl) rfl | exact .there (.there (.there (.here) rfl) rfl) rfl | exact .there (.there (.there (.there (.here) rfl) rfl) rfl) rfl | exact .there (.there (.there (.there (.there (.here) rfl) rfl) rfl) rfl) rfl | exact .there (.there (.there (.there (.there (.there (.here) rfl) rfl) rfl) rfl) rfl) rfl | exact .there (.there (.there (.there (.there (.there (.there (.here) rfl) rfl) rfl) rfl) rfl) rfl) rfl | exact .there (.there (.there (.there (.there (.there (.there (.there (.here) rfl) rfl) rfl) rfl) rfl) rfl) rfl) rfl | exact .there (.there (.there (.there (.there (.there (.there (.there (.there (.here) rfl) rfl) rfl) rfl) rfl) rfl) rfl) rfl) rfl) rfl rfl)) ?_
      refine WL_nil ?_
      refine W_seq ?_
      refine W_region ?_
      refine WL_cons hC.fn (.plain rfl (oc_move hC (.tmp rfl) rfl rfl)) ?_
      refine WL_cons hC.fn (.plain rfl (oc_move hC (.tmp rfl) rfl rfl)) ?_
      refine WL_cons hC.fn (.plain rfl (ox_lit hC (.cons (.tmp rfl) .nil) Tryd.underlying33 cells_22 zero_22 rfl (by decide) rfl rfl (by first | rfl | simp) rfl rfl)) ?_
      refine WL_cons hC.fn (.plain rfl (oc_call hC (.cons (.tmp rfl) (.cons (.tmp rfl) .nil)) (.cons1 (by first | exact .free (by first | exact inSL_I _ | simp) | exact .row rfl rfl (by first | exact inSL_I _ | simp) | exact .nils | exact .sl1 rfl (by first | exact cut_I | rfl) (by first | exact inSL_I _ | simp)) (.cons1 (by first | exact .free (by first | exact inSL_I _ | simp) | exact .row rfl rfl (by first | exact inSL_I _ | simp) | exact .nils | exact .sl1 rfl (by first | exact cut_I | rfl) (by first | exact inSL_I _ | simp)) (.same (by first | exact inSL_I _ | simp)))) (code_c n key [(m, b)] 1 hn hk (by omega) rfl (by decide) (by intro p hp; simp only [List.mem_cons, List.not_mem_nil, or_false] at hp; subst hp; exact ⟨hm, hb⟩) (by simp; omega)) (glob_cons rfl rfl (by first | exact inSL_I _ | simp) glob_nil) (by first | exact inSL_I _ | simp) (by first | exact .inl rfl | exact .inr (by simp)) rfl rfl)) ?_
      rw [show (([(m, b)] : List (Nat × List Int)).map (·.2)).flatten = b by simp]
      refine WL_cons hC.fn (.plain rfl (oc_move hC (.tmp rfl) rfl rfl)) ?_
      refine WL_cons hC.fn (.plain rfl (oc_move hC (.tmp rfl) rfl rfl)) ?_
      refine WL_cons hC.fn (.plain rfl (ox_lit hC (.cons (.tmp rfl) .nil) Tryd.underlying33 cells_22 zero_22 rfl (by decide) rfl rfl (by first | rfl | simp) rfl rfl)) ?_
      refine WL_cons hC.fn (.plain rfl (oc_call hC (.cons (.tmp rfl) (.cons (.tmp rfl) .nil)) (.cons1 (by first | exact .free (by first | exact inSL_I _ | simp) | exact .row rfl rfl (by first | exact inSL_I _ | simp) | exact .nils | exact .sl1 rfl (by first | exact cut_I | rfl) (by first | exact inSL_I _ | simp)) (.cons1 (by first | exact .free (by first | exact inSL_I _ | simp) | exact .row rfl rfl (by first | exact inSL_I _ | simp) | exact .nils | exact .sl1 rfl (by first | exact cut_I | rfl) (by first | exact inSL_I _ | simp)) (.same (by first | exact inSL_I _ | simp)))) (code_c (n + mo % 65) (key ++ List.replicate (mo % 65) 0) [(m, b)] 1 (by simp; omega) (B8_append hk (B8_zeros _)) (by omega) rfl (by decide) (by intro p hp; simp only [List.mem_cons, List.not_mem_nil, or_false] at hp; subst hp; exact ⟨hm, hb⟩) (by simp; omega)) (glob_cons rfl rfl (by first | exact inSL_I _ | simp) glob_nil) (by first | exact inSL_I _ | simp) (by first | exact .inl rfl | exact .inr (by simp)) rfl rfl)) ?_
      rw [show (([(m, b)] : List (Nat × List Int)).map (·.2)).flatten = b by simp]
      rw [codeM_zeros (by omega)]
      refine WL_cons hC.fn (.plain rfl (ox_eqI (r := true) hC (.inl rfl) (.tmp rfl) (.tmp rfl) sh_24 kt_24 sg_24 eg_24 hlc hlc (wf_u8 hbc) (wf_u8 hbc) (by simp) rfl rfl)) ?_
      refine WL_cons hC.fn (.plain rfl (oc_move hC (.tmp rfl) rfl rfl)) ?_
      refine WL_cons hC.fn (.yes rfl rfl (by decide) rfl (oc_call hC .nil (.same (by first | exact inSL_I _ | simp)) (awake04_c) (glob_cons rfl rfl (by first | exact inSL_I _ | simp) glob_nil) (by first | exact inSL_I _ | simp) (by first | exact .inl rfl | exact .inr (by simp)) rfl rfl)) ?_
      refine WL_cons hC.fn (.plain rfl (ox_pick hC (.tmp rfl) (.tmp rfl) .cbool (by first | exact pick_t | exact pick_f | rfl) rfl rfl)) ?_
      refine WL_cons hC.fn (.plain rfl (oc_assign hC (.tmp rfl) rfl rfl)) ?_
      refine WL_nil ?_
      refine W_ret ?_
      exact fin0 (.cons (.tmp rfl) .nil) rfl trivial
set_option maxRecDepth 20000 in
set_option maxHeartbeats 4000000 in
theorem law_DeriveParted (ns nt np : Nat) (se sa pu : List Int) (hs : se.length = ns) (ht : sa.length = nt) (hp : pu.length = np) (bs8 : B8 se) (bt8 : B8 sa) (bp8 : B8 pu) : FnC Tryd.prog 9 [(1000000, .rp (I .u32 tbl))] [.vs ns (I .u8 se), .vs nt (I .u8 sa), .vs np (I .u8 pu)] [] [] (.b true) := by
  have hlc := length_code sa se
  have hbc := B8_code sa se
  have hl1 := length_keyT (codeM sa se) pu 0
  have hl2 := length_keyT (codeM sa se) pu 1
  have hb1 := B8_keyT (codeM sa se) pu 1
  have hk1 := keyS_fst (p := (codeM sa se)) (q := pu)
  have hk2 := keyS_snd (p := (codeM sa se)) (q := pu)
  refine FnC.intro (N0 := 0) (T := 65) (E := [(0, .vs ns (I .u8 se)), (1, .vs nt (I .u8 sa)), (2, .vs np (I .u8 pu)), (1000000, .rp (I .u32 tbl))]) Tryd.func9 rfl (by decide) mix rfl rfl rfl (by simp) rfl ⟨(by first | exact inSL_I _ | trivial | simp), (by first | exact inSL_I _ | trivial | simp), (by first | exact inSL_I _ | trivial | simp), trivial⟩ (by simp) (by intro S _ _ h; simp) (fun F n0 X w ρ hC => ?_)
  refine W_seq ?_
  refine W_region ?_
  refine WL_cons hC.fn (.plain rfl (oc_assign hC .cbool rfl rfl)) ?_
  refine WL_nil ?_
  refine W_seq ?_
  refine W_seq ?_
  rcases (show (100 < ns) ∨ (ns ≤ 100 ∧ 100 < nt) ∨ (ns ≤ 100 ∧ nt ≤ 100 ∧ 100 < np) ∨ (ns ≤ 100 ∧ nt ≤ 100 ∧ np ≤ 100) by omega) with h | h | h | h
  ·
    refine W_region ?_
    refine WL_cons hC.fn (.plain rfl (oc_move hC (.tmp rfl) rfl rfl)) ?_
    refine WL_cons hC.fn (.plain rfl (ox_len hC (.tmp rfl) (by first | exact .row rfl | exact .vs | exact .sl rfl | exact .nils) Tryd.underlying22 rfl rfl rfl)) ?_
    refine WL_cons hC.fn (.plain rfl (ox_cmp hC rfl (.tmp rfl) .cint (r := true) (by simp only [cmpI]; exact decide_eq_true (by omega)) rfl rfl)) ?_
    refine WL_cons hC.fn (.plain rfl (oc_move hC (.tmp rfl) rfl rfl)) ?_
    refine WL_cons hC.fn (.no (s1 := ⟨_, (15, .tu []) :: _, _⟩) rfl rfl (by decide) rfl (by decide) (fun t ht => by cases ht; exact ⟨blt_lt rfl, blt_lt rfl⟩) (fun t => setE_cons _ _ _ _) rfl rfl) ?_
    refine WL_cons hC.fn (.no (s1 := ⟨_, (16, .tu []) :: _, _⟩) rfl rfl (by decide) rfl (by decide) (fun t ht => by cases ht; exact ⟨blt_lt rfl, blt_lt rfl⟩) (fun t => setE_cons _ _ _ _) rfl rfl) ?_
    refine WL_cons hC.fn (.no (s1 := ⟨_, (17, .tu []) :: _, _⟩) rfl rfl (by decide) rfl (by decide) (fun t ht => by cases ht; exact ⟨blt_lt rfl, blt_lt rfl⟩) (fun t => setE_cons _ _ _ _) rfl rfl) ?_
    refine WL_cons hC.fn (.plain rfl (ox_pick hC (.tmp rfl) .cbool (.tmp rfl) (by first | exact pick_t | exact pick_f | rfl) rfl rfl)) ?_
    refine WL_cons hC.fn (.plain rfl (oc_move hC (.tmp rfl) rfl rfl)) ?_
    refine WL_cons hC.fn (.no (s1 := ⟨_, (20, .tu []) :: _, _⟩) rfl rfl (by decide) rfl (by decide) (fun t ht => by cases ht; exact ⟨blt_lt rfl, blt_lt rfl⟩) (fun t => setE_cons _ _ _ _) rfl rfl) ?_
    refine WL_cons hC.fn (.no (s1 := ⟨_, (21, .tu []) :: _, _⟩) rfl rfl (by decide) rfl (by decide) (fun t ht => by cases ht; exact ⟨blt_lt rfl, blt_lt rfl⟩) (fun t => setE_cons _ _ _ _) rfl rfl) ?_
    refine WL_cons hC.fn (.no (s1 := ⟨_, (22, .tu []) :: _, _⟩) rfl rfl (by decide) rfl (by decide) (fun t ht => by cases ht; exact ⟨blt_lt rfl, blt_lt rfl⟩) (fun t => setE_cons _ _ _ _) rfl rfl) ?_
    refine WL_cons hC.fn (.plain rfl (ox_pick hC (.tmp rfl) .cbool (.tmp rfl) (by first | exact pick_t | exact pick_f | rfl) rfl rfl)) ?_
    refine WL_nil ?_
    refine W_cond rfl (by decide) (fun _ => ?_) (fun hc => by cases hc)
    refine W_seq ?_
    refine W_region ?_
    refine WL_cons hC.fn (.plain rfl (oc_call hC .nil (.same (by first | exact inSL_I _ | simp)) (awake04_c) (glob_cons rfl rfl (by first | exact inSL_I _ | simp) glob_nil) (by first | exact inSL_I _ | simp) (by first | exact .inl rfl | exact .inr (by simp)) rfl rfl)) ?_
    refine WL_cons hC.fn (.plain rfl (oc_assign hC (.tmp rfl) rfl rfl)) ?_
    refine WL_nil ?_
    refine W_ret ?_
    exact fin0 (.cons (.tmp rfl) .nil) rfl trivial
  ·
    refine W_region ?_
    refine WL_cons hC.fn (.plain rfl (oc_move hC (.tmp rfl) rfl rfl)) ?_
    refine WL_cons hC.fn (.plain rfl (ox_len hC (.tmp rfl) (by first | exact .row rfl | exact .vs | exact .sl rfl | exact .nils) Tryd.underlying22 rfl rfl rfl)) ?_
    refine WL_cons hC.fn (.plain rfl (ox_cmp hC rfl (.tmp rfl) .cint (r := false) (by simp only [cmpI]; exact decide_eq_false (by omega)) rfl rfl)) ?_
    refine WL_cons hC.fn (.plain rfl (oc_move hC (.tmp rfl) rfl rfl)) ?_
    refine WL_cons hC.fn (.yes rfl rfl (by decide) rfl (oc_move hC (.tmp rfl) rfl rfl)) ?_
    refine WL_cons hC.fn (.yes rfl rfl (by decide) rfl (ox_len hC (.tmp rfl) (by first | exact .row rfl | exact .vs | exact .sl rfl | exact .nils) Tryd.underlying22 rfl rfl rfl)) ?_
    refine WL_cons hC.fn (.yes rfl rfl (by decide) rfl (ox_cmp hC rfl (.tmp rfl) .cint (r := true) (by simp only [cmpI]; exact decide_eq_true (by omega)) rfl rfl)) ?_
    refine WL_cons hC.fn (.plain rfl (ox_pick hC (.tmp rfl) .cbool (.tmp rfl) (by first | exact pick_t | exact pick_f | rfl) rfl rfl)) ?_
    refine WL_cons hC.fn (.plain rfl (oc_move hC (.tmp rfl) rfl rfl)) ?_
    refine WL_cons hC.fn (.no (s1 := ⟨_, (20, .tu []) :: _, _⟩) rfl rfl (by decide) rfl (by decide) (fun t ht => by cases ht; exact ⟨blt_lt rfl, blt_lt rfl⟩) (fun t => setE_cons _ _ _ _) rfl rfl) ?_
    refine WL_cons hC.fn (.no (s1 := ⟨_, (21, .tu []) :: _, _⟩) rfl rfl (by decide) rfl (by decide) (fun t ht => by cases ht; exact ⟨blt_lt rfl, blt_lt rfl⟩) (fun t => setE_cons _ _ _ _) rfl rfl) ?_
    refine WL_cons hC.fn (.no (s1 := ⟨_, (22, .tu []) :: _, _⟩) rfl rfl (by decide) rfl (by decide) (fun t ht => by cases ht; exact ⟨blt_lt rfl, blt_lt rfl⟩) (fun t => setE_cons _ _ _ _) rfl rfl) ?_
    refine WL_cons hC.fn (.plain rfl (ox_pick hC (.tmp rfl) .cbool (.tmp rfl) (by first | exact pick_t | exact pick_f | rfl) rfl rfl)) ?_
    refine WL_nil ?_
    refine W_cond rfl (by decide) (fun _ => ?_) (fun hc => by cases hc)
    refine W_seq ?_
    refine W_region ?_
    refine WL_cons hC.fn (.plain rfl (oc_call hC .nil (.same (by first | exact inSL_I _ | simp)) (awake04_c) (glob_cons rfl rfl (by first | exact inSL_I _ | simp) glob_nil) (by first | exact inSL_I _ | simp) (by first | exact .inl rfl | exact .inr (by simp)) rfl rfl)) ?_
    refine WL_cons hC.fn (.plain rfl (oc_assign hC (.tmp rfl) rfl rfl)) ?_
    refine WL_nil ?_
    refine W_ret ?_
    exact fin0 (.cons (.tmp rfl) .nil) rfl trivial
  ·
    refine W_region ?_
    refine WL_cons hC.fn (.plain rfl (oc_move hC (.tmp rfl) rfl rfl)) ?_
    refine WL_cons hC.fn (.plain rfl (ox_len hC (.tmp rfl) (by first | exact .row rfl | exact .vs | exact .sl rfl | exact .nils) Tryd.underlying22 rfl rfl rfl)) ?_
    refine WL_cons hC.fn (.plain rfl (ox_cmp hC rfl (.tmp rfl) .cint (r := false) (by simp only [cmpI]; exact decide_eq_false (by omega)) rfl rfl)) ?_
    refine WL_cons hC.fn (.plain rfl (oc_move hC (.tmp rfl) rfl rfl)) ?_
    refine WL_cons hC.fn (.yes rfl rfl (by decide) rfl (oc_move hC (.tmp rfl) rfl rfl)) ?_
    refine WL_cons hC.fn (.yes rfl rfl (by decide) rfl (ox_len hC (.tmp rfl) (by first | exact .row rfl | exact .vs | exact .sl rfl | exact .nils) Tryd.underlying22 rfl rfl rfl)) ?_
    refine WL_cons hC.fn (.yes rfl rfl (by decide) rfl (ox_cmp hC rfl (.tmp rfl) .cint (r := false) (by simp only [cmpI]; exact decide_eq_false (by omega)) rfl rfl)) ?_
    refine WL_cons hC.fn (.plain rfl (ox_pick hC (.tmp rfl) .cbool (.tmp rfl) (by first | exact pick_t | exact pick_f | rfl) rfl rfl)) ?_
    refine WL_cons hC.fn (.plain rfl (oc_move hC (.tmp rfl) rfl rfl)) ?_
    refine WL_cons hC.fn (.yes rfl rfl (by decide) rfl (oc_move hC (.tmp rfl) rfl rfl)) ?_
    refine WL_cons hC.fn (.yes rfl rfl (by decide) rfl (ox_len hC (.tmp rfl) (by first | exact .row rfl | exact .vs | exact .sl rfl | exact .nils) Tryd.underlying22 rfl rfl rfl)) ?_
    refine WL_cons hC.fn (.yes rfl rfl (by decide) rfl (ox_cmp hC rfl (.tmp rfl) .cint (r := true) (by simp only [cmpI]; exact decide_eq_true (by omega)) rfl rfl)) ?_
    refine WL_cons hC.fn (.plain rfl (ox_pick hC (.tmp rfl) .cbool (.tmp rfl) (by first | exact pick_t | exact pick_f | rfl) rfl rfl)) ?_
    refine WL_nil ?_
    refine W_cond rfl (by decide) (fun _ => ?_) (fun hc => by cases hc)
    refine W_seq ?_
    refine W_region ?_
    refine WL_cons hC.fn (.plain rfl (oc_call hC .nil (.same (by first | exact inSL_I _ | simp)) (awake04_c) (glob_cons rfl rfl (by first | exact inSL_I _ | simp) glob_nil) (by first | exact inSL_I _ | simp) (by first | exact .inl rfl | exact .inr (by simp)) rfl rfl)) ?_
    refine WL_cons hC.fn (.plain rfl (oc_assign hC (.tmp rfl) rfl rfl)) ?_
    refine WL_nil ?_
    refine W_ret ?_
    exact fin0 (.cons (.tmp rfl) .nil) rfl trivial
  ·
    refine W_region ?_
    refine WL_cons hC.fn (.plain rfl (oc_move hC (.tmp rfl) rfl rfl)) ?_
    refine WL_cons hC.fn (.plain rfl (ox_len hC (.tmp rfl) (by first | exact .row rfl | exact .vs | exact .sl rfl | exact .nils) Tryd.underlying22 rfl rfl rfl)) ?_
    refine WL_cons hC.fn (.plain rfl (ox_cmp hC rfl (.tmp rfl) .cint (r := false) (by simp only [cmpI]; exact decide_eq_false (by omega)) rfl rfl)) ?_
    refine WL_cons hC.fn (.plain rfl (oc_move hC (.tmp rfl) rfl rfl)) ?_
    refine WL_cons hC.fn (.yes rfl rfl (by decide) rfl (oc_move hC (.tmp rfl) rfl rfl)) ?_
    refine WL_cons hC.fn (.yes rfl rfl (by decide) rfl (ox_len hC (.tmp rfl) (by first | exact .row rfl | exact .vs | exact .sl rfl | exact .nils) Tryd.underlying22 rfl rfl rfl)) ?_
    refine WL_cons hC.fn (.yes rfl rfl (by decide) rfl (ox_cmp hC rfl (.tmp rfl) .cint (r := false) (by simp only [cmpI]; exact decide_eq_false (by omega)) rfl rfl)) ?_
    refine WL_cons hC.fn (.plain rfl (ox_pick hC (.tmp rfl) .cbool (.tmp rfl) (by first | exact pick_t | exact pick_f | rfl) rfl rfl)) ?_
    refine WL_cons hC.fn (.plain rfl (oc_move hC (.tmp rfl) rfl rfl)) ?_
    refine WL_cons hC.fn (.yes rfl rfl (by decide) rfl (oc_move hC (.tmp rfl) rfl rfl)) ?_
    refine WL_cons hC.fn (.yes rfl rfl (by decide) rfl (ox_len hC (.tmp rfl) (by first | exact .row rfl | exact .vs | exact .sl rfl | exact .nils) Tryd.underlying22 rfl rfl rfl)) ?_
    refine WL_cons hC.fn (.yes rfl rfl (by decide) rfl (ox_cmp hC rfl (.tmp rfl) .cint (r := false) (by simp only [cmpI]; exact decide_eq_false (by omega)) rfl rfl)) ?_
    refine WL_cons hC.fn (.plain rfl (ox_pick hC (.tmp rfl) .cbool (.tmp rfl) (by first | exact pick_t | exact pick_f | rfl) rfl rfl)) ?_
    refine WL_nil ?_
    refine W_cond rfl (by decide) (fun hc => by cases hc) (fun _ => ?_)
    refine W_skip ?_
    refine W_seq ?_
    refine W_region ?_
    refine WL_cons hC.fn (.plain rfl (oc_move hC (.tmp rfl) rfl rfl)) ?_
    refine WL_cons hC.fn (.plain rfl (oc_move hC (.tmp rfl) rfl rfl)) ?_
    refine WL_cons hC.fn (.plain rfl (oc_move hC (.tmp rfl) rfl rfl)) ?_
    refine WL_cons hC.fn (.plain rfl (oc_callN hC (.cons (.tmp rfl) (.cons (.tmp rfl) (.cons (.tmp rfl) (.cons .cint .nil)))) (.cons1 (by first | exact .free (by first | exact inSL_I _ | simp) | exact .row rfl rfl (by first | exact inSL_I _ | simp) | exact .nils | exact .sl1 rfl (by first | exact cut_I | rfl) (by first | exact inSL_I _ | simp)) (.cons1 (by first | exact .free (by first | exact inSL_I _ | simp) | exact .row rfl rfl (by first | exact inSL_I _ | simp) | exact .nils | exact .sl1 rfl (by first | exact cut_I | rfl) (by first | exact inSL_I _ | simp)) (.cons1 (by first | exact .free (by first | exact inSL_I _ | simp) | exact .row rfl rfl (by first | exact inSL_I _ | simp) | exact .nils | exact .sl1 rfl (by first | exact cut_I | rfl) (by first | exact inSL_I _ | simp)) (.cons1 (.free (by first | exact inSL_I _ | simp)) (.same (by first | exact inSL_I _ | simp)))))) (key_c _ _ _ 64 se sa pu hs ht hp bs8 bt8 bp8 (by omega) (by omega) (by omega) (by omega)) (glob_cons rfl rfl (by first | exact inSL_I _ | simp) glob_nil) (by first | exact inSL_I _ | simp) rfl (by first | exact .inl rfl | exact .inr ⟨by simp, novsL_I _⟩ | exact .inr ⟨by simp, by simp⟩) rfl rfl)) ?_
    rw [keyS_two]
    refine WL_cons hC.fn (.plain rfl (oc_assign hC (.tmp rfl) rfl rfl)) ?_
    refine WL_nil ?_
    refine W_seq ?_
    refine W_seq ?_
    refine W_region ?_
    refine WL_cons hC.fn (.plain rfl (oc_move hC (.tmp rfl) rfl rfl)) ?_
    refine WL_cons hC.fn (.plain rfl (ox_len hC (.tmp rfl) (by first | exact .row rfl | exact .vs | exact .sl rfl | exact .nils) Tryd.underlying22 rfl rfl rfl)) ?_
    refine WL_cons hC.fn (.plain rfl (ox_cmp hC rfl (.tmp rfl) .cint (r := false) rfl rfl rfl)) ?_
    refine WL_nil ?_
    refine W_cond rfl (by decide) (fun hc => by cases hc) (fun _ => ?_)
    refine W_skip ?_
    refine W_seq ?_
    refine W_region ?_
    refine WL_cons hC.fn (.plain rfl (oc_move hC (.tmp rfl) rfl rfl)) ?_
    refine WL_cons hC.fn (.plain rfl (oc_move hC (.tmp rfl) rfl rfl)) ?_
    refine WL_cons hC.fn (.plain rfl (ox_lit hC (.cons (.tmp rfl) .nil) Tryd.underlying33 cells_22 zero_22 rfl (by decide) rfl rfl (by first | rfl | simp) rfl rfl)) ?_
    refine WL_cons hC.fn (.plain rfl (oc_call hC (.cons (.tmp rfl) (.cons (.tmp rfl) .nil)) (.cons1 (by first | exact .free (by first | exact inSL_I _ | simp) | exact .row rfl rfl (by first | exact inSL_I _ | simp) | exact .nils | exact .sl1 rfl (by first | exact cut_I | rfl) (by first | exact inSL_I _ | simp)) (.cons1 (by first | exact .free (by first | exact inSL_I _ | simp) | exact .row rfl rfl (by first | exact inSL_I _ | simp) | exact .nils | exact .sl1 rfl (by first | exact cut_I | rfl) (by first | exact inSL_I _ | simp)) (.same (by first | exact inSL_I _ | simp)))) (code_c nt sa [(ns, se)] 1 ht bt8 (by omega) rfl (by decide) (by intro p hp; simp only [List.mem_cons, List.not_mem_nil, or_false] at hp; subst hp; exact ⟨hs, bs8⟩) (by simp; omega)) (glob_cons rfl rfl (by first | exact inSL_I _ | simp) glob_nil) (by first | exact inSL_I _ | simp) (by first | exact .inl rfl | exact .inr (by simp)) rfl rfl)) ?_
    rw [show (([(ns, se)] : List (Nat × List Int)).map (·.2)).flatten = se by simp]
    refine WL_cons hC.fn (.plain rfl (ox_alloc hC zero_24 rfl rfl rfl)) ?_
    refine WL_cons hC.fn (.plain rfl (ox_store hC (.tmp rfl) (.tmp rfl) rfl shp_24 (by first | rfl | exact flat_agI) (by rw [cells_ag, length_I, hlc]) (by first | exact Nat.le_refl _ | decide | (simp <;> fail) | (simp; omega)) (put_allI (by rw [hlc]; rfl)) (by first | exact .here | exact .there (.here) rfl | exact .there (.there (.here) rfl) rfl | exact .there (.there (.there (.here) rfl) rfl) rfl | exact .there (.there (.there (.there (.here) rfl) rfl) rfl) rfl | exact .there (.there (.there (.there (.there (.here) rfl) rfl) rfl) rfl) rfl | exact .there (.there (.there (.there (.there (.there (.here) rfl) rfl) rfl) rfl) rfl) rfl | exact .there (.there (.there (.there (.there (.there (.there (.here) rfl) rfl) rfl) rfl) rfl) rfl) rfl | exact .there (.there (.there (.there (.there (.there (.there (.there (.here) rfl) rfl) rfl) rfl) rfl) rfl) rfl) rfl | exact .there (.there (.there (.there (.there (.there (.there (.there (.there (.here) rfl) rfl) rfl) rfl) rfl) rfl) rfl) rfl) rfl) rfl)) ?_
    refine WL_nil ?_
    refine W_seq ?_
    refine W_drawD hC ?_
    refine WD_cons (.plain rfl (ox_cutA hC (.tmp rfl) .no .no idx_24 (by first | omega | (simp; omega)) (by first | omega | (simp; omega)) (by first | exact .p (by first | (simp <;> fail) | rfl) | exact .rp (by first | omega | (simp; omega))) (by first | exact cut_vsI | rfl) rfl rfl)) ?_
    refine WD_cons (.plain rfl (oc_move hC (.tmp rfl) rfl rfl)) ?_
    refine WD_cons (.plain rfl (ox_lit hC (.cons .cint .nil) Tryd.underlying22 cells_5 zero_5 rfl (by decide) rfl rfl (by first | rfl | simp) rfl rfl)) ?_
    refine WD_cons (.plain rfl (ox_lit hC (.cons (.tmp rfl) (.cons (.tmp rfl) .nil)) Tryd.underlying33 cells_22 zero_22 rfl (by decide) rfl rfl (by first | rfl | simp) rfl rfl)) ?_
    refine WD_cons (.plain rfl (oc_call hC (.cons (.tmp rfl) (.cons (.tmp rfl) .nil)) (.sl (m := 32) rfl (by rw [List.drop_zero]; exact take_allI hlc) (by intro h; cases h) (.same (inSL_I _)) (.vs (.free (inSL_I _) (.free (by simp) (.same trivial))) (.same trivial))) (code_c 32 (codeM sa se) [(np, pu), (1, [1])] 2 hlc hbc (by decide) rfl (by decide) (by intro p hp; simp only [List.mem_cons, List.not_mem_nil, or_false] at hp; rcases hp with rfl | rfl; exact ⟨hp, bp8⟩; exact ⟨rfl, (by unfold B8; decide)⟩) (by simp; omega)) (glob_cons rfl rfl (by first | exact inSL_I _ | simp) glob_nil) (by first | exact inSL_I _ | simp) (by first | exact .inl rfl | exact .inr (by simp)) rfl rfl)) ?_
    rw [show (([(np, pu), (1, [1])] : List (Nat × List Int)).map (·.2)).flatten = pu ++ [1] by simp]
    rw [keyT_one]
    refine WD_cons (.plain rfl (ox_cutA hC (.tmp rfl) .no .no idx_24 (by first | omega | (simp; omega)) (by first | omega | (simp; omega)) (by first | exact .p (by first | (simp <;> fail) | rfl) | exact .rp (by first | omega | (simp; omega))) (by first | exact cut_vsI | rfl) rfl rfl)) ?_
    refine WD_cons (.plain rfl (oc_move hC (.tmp rfl) rfl rfl)) ?_
    refine WD_cons (.plain rfl (ox_cutS hC (.tmp rfl) .no (.yes (n := 32) .cint rfl) idx_22 (by first | exact .row rfl (Nat.mul_one _) | exact .sl rfl | exact .vs (by first | omega | (simp; omega)) | exact .nils) (by first | omega | (simp; omega)) (by first | omega | (simp; omega)) (by first | exact cut_vsI | rfl) rfl rfl)) ?_
    refine WD_cons (.plain rfl (oc_move hC (.tmp rfl) rfl rfl)) ?_
    refine WD_cons (.plain rfl (ox_lit hC (.cons .cint .nil) Tryd.underlying22 cells_5 zero_5 rfl (by decide) rfl rfl (by first | rfl | simp) rfl rfl)) ?_
    refine WD_cons (.plain rfl (ox_lit hC (.cons (.tmp rfl) (.cons (.tmp rfl) (.cons (.tmp rfl) .nil))) Tryd.underlying33 cells_22 zero_22 rfl (by decide) rfl rfl (by first | rfl | simp) rfl rfl)) ?_
    refine WD_cons (.plain rfl (oc_call hC (.cons (.tmp rfl) (.cons (.tmp rfl) .nil)) (.sl (m := 32) rfl (by rw [List.drop_zero]; exact take_allI hlc) (by intro h; cases h) (.same (inSL_I _)) (.vs (.sl (m := 32) rfl (by rw [List.drop_zero]; exact take_takeI.trans (by rw [hk1])) (by intro h; cases h) (.same (inSL_I _)) (.free (inSL_I _) (.free (by simp) (.same trivial)))) (.same trivial))) (code_c 32 (codeM sa se) [(32, (keyT (codeM sa se) pu 1)), (np, pu), (1, [2])] 3 hlc hbc (by decide) rfl (by decide) (by intro p hp; simp only [List.mem_cons, List.not_mem_nil, or_false] at hp; rcases hp with rfl | rfl | rfl; exact ⟨hl1, hb1⟩; exact ⟨hp, bp8⟩; exact ⟨rfl, (by unfold B8; decide)⟩) (by simp [hl1]; omega)) (glob_cons rfl rfl (by first | exact inSL_I _ | simp) glob_nil) (by first | exact inSL_I _ | simp) (by first | exact .inl rfl | exact .inr (by simp)) rfl rfl)) ?_
    rw [show (([(32, (keyT (codeM sa se) pu 1)), (np, pu), (1, [2])] : List (Nat × List Int)).map (·.2)).flatten = (keyT (codeM sa se) pu 1) ++ pu ++ [2] by simp]
    rw [keyT_two]
    refine WD_cons (.plain rfl (ox_alloc hC zero_24 rfl rfl rfl)) ?_
    refine WD_cons (.plain rfl (ox_alloc hC zero_24 rfl rfl rfl)) ?_
    refine WD_cons (.plain rfl (ox_store hC (.tmp rfl) (.tmp rfl) rfl shp_24 (by first | rfl | exact flat_agI) (by rw [cells_ag, length_I, hl1]) (by first | exact Nat.le_refl _ | decide | (simp <;> fail) | (simp; omega)) (put_allI (by rw [hl1]; rfl)) (by first | exact .here | exact .there (.here) rfl | exact .there (.there (.here) rfl) rfl | exact .there (.there (.there (.here) rfl) rfl) rfl | exact .there (.there (.there (.there (.here) rfl) rfl) rfl) rfl | exact .there (.there (.there (.there (.there (.here) rfl) rfl) rfl) rfl) rfl | exact .there (.there (.there (.there (.there (.there (.here) rfl) rfl) rfl) rfl) rfl) rfl | exact .there (.there (.there (.there (.there (.there (.there (.here) rfl) rfl) rfl) rfl) rfl) rfl) rfl | exact .there (.there (.there (.there (.there (.there (.there (.there (.here) rfl) rfl) rfl) rfl) rfl) rfl) rfl) rfl | exact .there (.there (.there (.there (.there (.there (.there (.there (.there (.here) rfl) rfl) rfl) rfl) rfl) rfl) rfl) rfl) rfl) rfl)) ?_
    refine WD_cons (.plain rfl (ox_store hC (.tmp rfl) (.tmp rfl) rfl shp_24 (by first | rfl | exact flat_agI) (by rw [cells_ag, length_I, hl2]) (by first | exact Nat.le_refl _ | decide | (simp <;> fail) | (simp; omega)) (put_allI (by rw [hl2]; rfl)) (by first | exact .here | exact .there (.here) rfl | exact .there (.there (.here) rfl) rfl | exact .there (.there (.there (.here) rfl) rfl) rfl | exact .there (.there (.there (.there (.here) rfl) rfl) rfl) rfl | exact .there (.there (.there (.there (.there (.here) rfl) rfl) rfl) rfl) rfl | exact .there (.there (.there (.there (.there (.there (.here) rfl) rfl) rfl) rfl) rfl) rfl | exact .there (.there (.there (.there (.there (.there (.there (.here) rfl) rfl) rfl) rfl) rfl) rfl) rfl | exact .there (.there (.there (.there (.there (.there (.there (.there (.here) rfl) rfl) rfl) rfl) rfl) rfl) rfl) rfl | exact .there (.there (.there (.there (.there (.there (.there (.there (.there (.here) rfl) rfl) rfl) rfl) rfl) rfl) rfl) rfl) rfl) rfl)) ?_
    refine WD_nil (by kernel_rfl) ?_
    refine W_seq ?_
    refine W_drawD hC ?_
    refine WD_cons (.plain rfl (oc_move hC (.tmp rfl) rfl rfl)) ?_
    refine WD_cons (.plain rfl (ox_cutS hC (.tmp rfl) .no (.yes (n := 32) .cint rfl) idx_22 (by first | exact .row rfl (Nat.mul_one _) | exact .sl rfl | exact .vs (by first | omega | (simp; omega)) | exact .nils) (by first | omega | (simp; omega)) (by first | omega | (simp; omega)) (by first | exact cut_vsI | rfl) rfl rfl)) ?_
    refine WD_cons (.plain rfl (ox_b2s (l := (keyT (codeM sa se) pu 1)) hC (.tmp rfl) (by first | exact .row rfl | exact .vs | exact .sl rfl | exact .nils) (by rw [List.drop_zero]; exact take_takeI.trans (by rw [hk1])) hl1 Tryd.underlying22 Tryd.underlying5 Tryd.underlying9 rfl rfl)) ?_
    refine WD_cons (.plain rfl (ox_cutA hC (.tmp rfl) .no .no idx_24 (by first | omega | (simp; omega)) (by first | omega | (simp; omega)) (by first | exact .p (by first | (simp <;> fail) | rfl) | exact .rp (by first | omega | (simp; omega))) (by first | exact cut_vsI | rfl) rfl rfl)) ?_
    refine WD_cons (.plain rfl (ox_b2s (l := (keyT (codeM sa se) pu 1)) hC (.tmp rfl) (by first | exact .row rfl | exact .vs | exact .sl rfl | exact .nils) (by simp only [Nat.zero_mul, Nat.add_zero, List.drop_zero]; exact take_allI hl1) hl1 Tryd.underlying22 Tryd.underlying5 Tryd.underlying9 rfl rfl)) ?_
    refine WD_cons (.plain rfl (ox_eqs hC (.inl rfl) (.tmp rfl) (.tmp rfl) (r := true) (by simp) rfl rfl)) ?_
    refine WD_cons (.plain rfl (oc_move hC (.tmp rfl) rfl rfl)) ?_
    refine WD_cons (.yes rfl rfl (by decide) rfl (oc_move hC (.tmp rfl) rfl rfl)) ?_
    refine WD_cons (.yes rfl rfl (by decide) rfl (ox_cutS hC (.tmp rfl) (.yes (n := 32) .cint rfl) .no idx_22 (by first | exact .row rfl (Nat.mul_one _) | exact .sl rfl | exact .vs (by first | omega | (simp; omega)) | exact .nils) (by first | omega | (simp; omega)) (by first | omega | (simp; omega)) (by first | exact cut_vsI | rfl) rfl rfl)) ?_
    refine WD_cons (.yes rfl rfl (by decide) rfl (ox_b2s (l := (keyT (codeM sa se) pu 2)) hC (.tmp rfl) (by first | exact .row rfl | exact .vs | exact .sl rfl | exact .nils) (by refine (take_cutI (m := 32) (n := 32)).trans ?_; rw [hk2]) hl2 Tryd.underlying22 Tryd.underlying5 Tryd.underlying9 rfl rfl)) ?_
    refine WD_cons (.yes rfl rfl (by decide) rfl (ox_cutA hC (.tmp rfl) .no .no idx_24 (by first | omega | (simp; omega)) (by first | omega | (simp; omega)) (by first | exact .p (by first | (simp <;> fail) | rfl) | exact .rp (by first | omega | (simp; omega))) (by first | exact cut_vsI | rfl) rfl rfl)) ?_
    refine WD_cons (.yes rfl rfl (by decide) rfl (ox_b2s (l := (keyT (codeM sa se) pu 2)) hC (.tmp rfl) (by first | exact .row rfl | exact .vs | exact .sl rfl | exact .nils) (by simp only [Nat.zero_mul, Nat.add_zero, List.drop_zero]; exact take_allI hl2) hl2 Tryd.underlying22 Tryd.underlying5 Tryd.underlying9 rfl rfl)) ?_
    refine WD_cons (.yes rfl rfl (by decide) rfl (ox_eqs hC (.inl rfl) (.tmp rfl) (.tmp rfl) (r := true) (by simp) rfl rfl)) ?_
    refine WD_cons (.plain rfl (ox_pick hC (.tmp rfl) (.tmp rfl) .cbool (by first | exact pick_t | exact pick_f | rfl) rfl rfl)) ?_
    refine WD_cons (.plain rfl (oc_move hC (.tmp rfl) rfl rfl)) ?_
    refine WD_cons (.yes rfl rfl (by decide) rfl (oc_call hC .nil (.same (by first | exact inSL_I _ | simp)) (awake04_c) (glob_cons rfl rfl (by first | exact inSL_I _ | simp) glob_nil) (by first | exact inSL_I _ | simp) (by first | exact .inl rfl | exact .inr (by simp)) rfl rfl)) ?_
    refine WD_cons (.plain rfl (ox_pick hC (.tmp rfl) (.tmp rfl) .cbool (by first | exact pick_t | exact pick_f | rfl) rfl rfl)) ?_
    refine WD_cons (.plain rfl (oc_assign hC (.tmp rfl) rfl rfl)) ?_
    refine WD_nil (by kernel_rfl) ?_
    refine W_ret ?_
    exact fin0 (.cons (.tmp rfl) .nil) rfl trivial
end Go.Proofs.YtnhmnolmfhcakaaDoor
