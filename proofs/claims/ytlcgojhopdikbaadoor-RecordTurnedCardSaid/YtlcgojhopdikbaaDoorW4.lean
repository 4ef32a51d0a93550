/- Own work, printed by a program of this claim: walks through functions of the program. -/
import Derived.Test.YtlcgojhopdikbaaDoorW3
import Derived.Test.YtlcgojhopdikbaaDoorProg
import Derived.KernelRfl
set_option linter.unusedSimpArgs false
set_option linter.unusedVariables false
namespace Go.Proofs.YtlcgojhopdikbaaDoor
open Go.Sk Go.RowKit
attribute [local simp] AV.inSL AV.inS inSL_I Blk.inS Blk.cs AV.novs AV.novsL novsL_I AV.ren AV.cells AV.one lk tuAV
theorem bld_39 : bldOK Tryd.prog 39 = true := by kernel_rfl
theorem zero_39 : zeroAV Tryd.prog 39 = some [.i .i64 0, .i .u8 0, .i .u8 0, .i .u8 0, .i .u8 0, .i .u8 0, .i .u8 0, .i .u8 0, .i .u8 0, .i .u8 0, .i .u8 0, .i .u8 0, .i .u8 0, .i .u8 0, .i .u8 0, .i .u8 0, .i .u8 0, .i .i64 0, .i .i64 0, .nils] := by kernel_rfl
theorem ren_rec0 {t : TypeId} {k v n : Int} {id : List Int} {τ : Nat → Nat} : (Blk.blk t (recX k id v n .nils)).ren τ = .blk t (recX k id v n .nils) := ren_recB (z := .nils) trivial
set_option maxRecDepth 20000 in
set_option maxHeartbeats 4000000 in
theorem decshort_c (s : List Int) (ns m : Nat) (hns : s.length = ns) (bs : B8 s) (hl : ns ≤ 1099511627776) (h : ns < 4) : FnC Tryd.prog 22 [(1000000, .rp (I .u32 nibT))] [.vs ns (I .u8 s)] [] [] (.tu [.ag (recX 0 (List.replicate 16 0) 0 0 .nils), .i .i64 2]) := by
  refine FnC.introR (N0 := 0) (T := 81) (E := [(0, .vs ns (I .u8 s)), (1000000, .rp (I .u32 nibT))]) Tryd.func22 rfl (by decide) mix rfl rfl rfl (by simp) rfl ⟨(by first | exact inSL_I _ | trivial | simp), trivial⟩ (by simp) (by intro S _ _ h; simp) (fun F n0 X w ρ hC hro => ?_)
  refine wsr ?_
  refine wp rfl hC (ox_alloc (cs' := recX 0 (List.replicate 16 0) 0 0 .nils) hC zero_39 (by unfold recX; rfl) rfl rfl) ?_
  refine wp rfl hC (oc_assign hC .cint rfl rfl) ?_
  refine WL_nil ?_
  refine wsr ?_
  refine wp rfl hC (oc_move hC (.tmp rfl) rfl rfl) ?_
  refine wp rfl hC (ox_len hC (.tmp rfl) (by first | exact .row rfl | exact .vs | exact .sl rfl | exact .nils) Tryd.underlying25 rfl rfl rfl) ?_
  refine wp rfl hC (oc_bin hC rfl (.tmp rfl) .cint (r := ((ns : Int) - 4)) (i64_sub (by omega)) rfl rfl) ?_
  refine wp rfl hC (oc_assign hC (.tmp rfl) rfl rfl) ?_
  refine WL_nil ?_
  refine W_seq ?_
  refine W_blk ?_
  refine wsr ?_
  refine wp rfl hC (oc_move hC (.tmp rfl) rfl rfl) ?_
  refine wp rfl hC (ox_cmp hC rfl (.tmp rfl) .cint (r := true) (by simp only [cmpI]; exact decide_eq_true (by omega)) rfl rfl) ?_
  refine wp rfl hC (oc_assign hC (.tmp rfl) rfl rfl) ?_
  refine WL_nil ?_
  refine W_cond rfl (by decide) (fun _ => ?_) (fun hc => by cases hc)
  refine wsr ?_
  refine wp rfl hC (ox_build (out' := recX 0 (List.replicate 16 0) 0 0 .nils) hC .nil zero_39 bld_39 rfl (by unfold recX; rfl) rfl rfl) ?_
  refine wp rfl hC (ox_store (bk' := .blk 39 (recX 0 (List.replicate 16 0) 0 0 .nils)) hC (.tmp rfl) (.tmp rfl) rfl shp_39 (flat_recX rfl) (by rw [cells_ag, length_recX rfl]) (by show _ ≤ (recX _ _ _ _ _).length; rw [length_recX rfl]; decide) (put_rall rfl rfl) (by first | exact .here | exact .s1 rfl | exact .s2 rfl rfl | exact .s3 rfl rfl rfl | exact .s4 rfl rfl rfl rfl | exact .s5 rfl rfl rfl rfl rfl | exact .s6 rfl rfl rfl rfl rfl rfl | exact .s7 rfl rfl rfl rfl rfl rfl rfl | exact .s8 rfl rfl rfl rfl rfl rfl rfl rfl) rfl) ?_
  refine wp rfl hC (oc_assign hC .cint rfl rfl) ?_
  refine WL_nil ?_
  refine W_ret ?_
  exact fin0 (.cons (.cell rfl (.p rfl) shp_39 (unit_rall (by first | rfl | exact length_idP _ (Nat.le_refl _)))) (.cons (.tmp rfl) .nil)) rfl (by simp)
set_option maxRecDepth 20000 in
set_option maxHeartbeats 4000000 in
theorem decsum_c (s : List Int) (ns m : Nat) (hns : s.length = ns) (bs : B8 s) (hl : ns ≤ 1099511627776) (hm : ns = m + 4) (hs : vle (s.drop m) ≠ ((crcS (s.take m) : Nat) : Int)) : FnC Tryd.prog 22 [(1000000, .rp (I .u32 nibT))] [.vs ns (I .u8 s)] [] [] (.tu [.ag (recX 0 (List.replicate 16 0) 0 0 .nils), .i .i64 6]) := by
  have hdl : (s.drop m).length = 4 := by rw [List.length_drop]; omega
  have hbd : B8 (s.drop m) := fun x hx => bs x (List.mem_of_mem_drop hx)
  have hbt : B8 (s.take m) := fun x hx => bs x (List.mem_of_mem_take hx)
  have hcr := crcS_lt hbt
  have hfx : FixS (s.drop m) 0 4 0 [] (s.drop m) := fix_all hdl
  refine FnC.introR (N0 := 0) (T := 81) (E := [(0, .vs ns (I .u8 s)), (1000000, .rp (I .u32 nibT))]) Tryd.func22 rfl (by decide) mix rfl rfl rfl (by simp) rfl ⟨(by first | exact inSL_I _ | trivial | simp), trivial⟩ (by simp) (by intro S _ _ h; simp) (fun F n0 X w ρ hC hro => ?_)
  refine wsr ?_
  refine wp rfl hC (ox_alloc (cs' := recX 0 (List.replicate 16 0) 0 0 .nils) hC zero_39 (by unfold recX; rfl) rfl rfl) ?_
  refine wp rfl hC (oc_assign hC .cint rfl rfl) ?_
  refine WL_nil ?_
  refine wsr ?_
  refine wp rfl hC (oc_move hC (.tmp rfl) rfl rfl) ?_
  refine wp rfl hC (ox_len hC (.tmp rfl) (by first | exact .row rfl | exact .vs | exact .sl rfl | exact .nils) Tryd.underlying25 rfl rfl rfl) ?_
  refine wp rfl hC (oc_bin hC rfl (.tmp rfl) .cint (r := ((m : Nat) : Int)) ((i64_sub (by omega)).trans (by omega)) rfl rfl) ?_
  refine wp rfl hC (oc_assign hC (.tmp rfl) rfl rfl) ?_
  refine WL_nil ?_
  refine W_seq ?_
  refine W_blk ?_
  refine wsr ?_
  refine wp rfl hC (oc_move hC (.tmp rfl) rfl rfl) ?_
  refine wp rfl hC (ox_cmp hC rfl (.tmp rfl) .cint (r := false) (by simp only [cmpI]; exact decide_eq_false (by omega)) rfl rfl) ?_
  refine wp rfl hC (oc_assign hC (.tmp rfl) rfl rfl) ?_
  refine WL_nil ?_
  refine W_cond rfl (by decide) (fun hc => by cases hc) (fun _ => ?_)
  refine W_seq ?_
  refine W_drawD hC ?_
  refine WD_cons (.plain rfl (oc_move hC (.tmp rfl) rfl rfl)) ?_
  refine WD_cons (.plain rfl (oc_move hC (.tmp rfl) rfl rfl)) ?_
  refine WD_cons (.plain rfl (ox_cutS (u' := .vs (s.drop m).length (I .u8 (s.drop m))) hC (.tmp rfl) (.yes (n := m) (.tmp rfl) (by first | rfl | omega | (simp; omega))) .no idx_25 (by first | exact .row rfl (Nat.mul_one _) | exact .sl rfl | exact .vs (by first | omega | (simp <;> fail) | (simp; omega)) | exact .nils) (by first | omega | (simp <;> fail) | (simp; omega)) (by first | omega | (simp <;> fail) | (simp; omega)) (by rw [cut_vsI]; exact cut_rest hns) rfl rfl)) ?_
  refine WD_cons (.plain rfl (oc_callG (τ := fun k => bif Nat.beq k 0 then 1 else k) (N' := 2) hC .func (.cons (.tmp rfl) .nil) (.v1 (by first | exact .free (by first | exact inSL_I _ | simp) | exact .row rfl rfl (by first | exact inSL_I _ | simp) | exact .nils | exact .sl1 rfl (by first | exact cut_I | rfl) (by first | exact inSL_I _ | simp)) .end) (new_c _ (s.drop m) rfl (by rw [List.length_drop]; omega)) glob_nil mr_nil (mr_cons (by first | exact ren_blkI | exact ren_rowI | exact Blk.ren_free (by simp) _ | rfl) rfl mr_nil) rfl rd_nil rfl rfl rfl rfl (by first | exact .inl rfl | exact .inr ⟨by simp, (nv_cons (by first | exact novsL_I _ | simp) nv_nil)⟩) rfl (dst_ok rfl rfl) (fun t => setE_cons _ _ _ _))) ?_
  refine WD_cons (.plain rfl (oc_callG (τ := fun k => bif Nat.beq k 0 then 1 else k) (N' := 2) hC .func (.cons (.tmp rfl) (.cons .cint .nil)) (.own (by first | rfl | simp) (.v1 (.free (by first | exact inSL_I _ | simp)) .end)) (fixr_u (s.drop m) [] 0 0 hbd (by omega) (s.drop m) 4 hfx) glob_nil (mr_cons (by first | exact ren_blkI | exact ren_rowI | exact Blk.ren_free (by simp) _ | rfl) rfl mr_nil) (mr_cons (by first | exact ren_blkI | exact ren_rowI | exact Blk.ren_free (by simp) _ | rfl) rfl mr_nil) rfl (rd_cons rfl rd_nil) rfl rfl rfl rfl (by first | exact .inl rfl | exact .inr ⟨by simp, (nv_cons (by first | exact novsL_I _ | simp) nv_nil)⟩) rfl (dst_ok rfl rfl) (fun t => setE_cons _ _ _ _))) ?_
  refine WD_cons (.plain rfl (oc_move hC (.tmp rfl) rfl rfl)) ?_
  refine WD_cons (.plain rfl (oc_move hC (.tmp rfl) rfl rfl)) ?_
  refine WD_cons (.plain rfl (ox_cutS (u' := .vs (s.take m).length (I .u8 (s.take m))) hC (.tmp rfl) .no (.yes (n := m) (.tmp rfl) (by first | rfl | omega | (simp; omega))) idx_25 (by first | exact .row rfl (Nat.mul_one _) | exact .sl rfl | exact .vs (by first | omega | (simp <;> fail) | (simp; omega)) | exact .nils) (by first | omega | (simp <;> fail) | (simp; omega)) (by first | omega | (simp <;> fail) | (simp; omega)) (by rw [cut_vsI]; exact cut_pre hns (by omega)) rfl rfl)) ?_
  refine WD_cons (.plain rfl (ox_lit hC (.cons (.tmp rfl) .nil) Tryd.underlying78 cells_25 zero_25 rfl (by decide) rfl rfl (by first | rfl | simp) rfl rfl)) ?_
  refine WD_cons (.plain rfl (oc_call hC (.cons (.tmp rfl) .nil) (.vs (.free (inSL_I _) (.same trivial)) (.same trivial)) (sumof_c (s.take m).length (s.take m) rfl hbt (by rw [List.length_take]; omega)) (glob_cons rfl rfl (by first | exact inSL_I _ | simp) glob_nil) (by first | exact inSL_I _ | simp) (by first | exact .inl rfl | exact .inr (by simp)) rfl rfl)) ?_
  refine WD_cons (.plain rfl (oc_conv hC (.tmp rfl) rfl Tryd.underlying55 (r := ((crcS (s.take m) : Nat) : Int)) (u64_conv (by omega)) rfl rfl)) ?_
  refine WD_cons (.plain rfl (ox_cmp hC rfl (.tmp rfl) (.tmp rfl) (r := true) (by simp only [cmpI]; exact decide_eq_true hs) rfl rfl)) ?_
  refine WD_cons (.plain rfl (oc_assign hC (.tmp rfl) rfl rfl)) ?_
  refine WD_nil (by kernel_rfl) ?_
  refine W_cond rfl (by decide) (fun _ => ?_) (fun hc => by cases hc)
  refine wsr ?_
  refine wp rfl hC (ox_build (out' := recX 0 (List.replicate 16 0) 0 0 .nils) hC .nil zero_39 bld_39 rfl (by unfold recX; rfl) rfl rfl) ?_
  refine wp rfl hC (ox_store (bk' := .blk 39 (recX 0 (List.replicate 16 0) 0 0 .nils)) hC (.tmp rfl) (.tmp rfl) rfl shp_39 (flat_recX rfl) (by rw [cells_ag, length_recX rfl]) (by show _ ≤ (recX _ _ _ _ _).length; rw [length_recX rfl]; decide) (put_rall rfl rfl) (by first | exact .here | exact .s1 rfl | exact .s2 rfl rfl | exact .s3 rfl rfl rfl | exact .s4 rfl rfl rfl rfl | exact .s5 rfl rfl rfl rfl rfl | exact .s6 rfl rfl rfl rfl rfl rfl | exact .s7 rfl rfl rfl rfl rfl rfl rfl | exact .s8 rfl rfl rfl rfl rfl rfl rfl rfl) rfl) ?_
  refine wp rfl hC (oc_assign hC .cint rfl rfl) ?_
  refine WL_nil ?_
  refine W_ret ?_
  exact fin0 (.cons (.cell rfl (.p rfl) shp_39 (unit_rall (by first | rfl | exact length_idP _ (Nat.le_refl _)))) (.cons (.tmp rfl) .nil)) rfl (by simp)
set_option maxRecDepth 20000 in
set_option maxHeartbeats 4000000 in
theorem decform_c (s : List Int) (ns m : Nat) (hns : s.length = ns) (bs : B8 s) (hl : ns ≤ 1099511627776) (hm : ns = m + 4) (hs : vle (s.drop m) = ((crcS (s.take m) : Nat) : Int)) (hmg : m < 4 ∨ (4 ≤ m ∧ s.take 4 ≠ [84, 65, 80, 69])) : FnC Tryd.prog 22 [(1000000, .rp (I .u32 nibT))] [.vs ns (I .u8 s)] [] [] (.tu [.ag (recX 0 (List.replicate 16 0) 0 0 .nils), .i .i64 4]) := by
  have hdl : (s.drop m).length = 4 := by rw [List.length_drop]; omega
  have hbd : B8 (s.drop m) := fun x hx => bs x (List.mem_of_mem_drop hx)
  have hbt : B8 (s.take m) := fun x hx => bs x (List.mem_of_mem_take hx)
  have hcr := crcS_lt hbt
  have hfx : FixS (s.drop m) 0 4 0 [] (s.drop m) := fix_all hdl
  have hb4 : B8 (s.take 4) := fun x hx => bs x (List.mem_of_mem_take hx)
  refine FnC.introR (N0 := 0) (T := 81) (E := [(0, .vs ns (I .u8 s)), (1000000, .rp (I .u32 nibT))]) Tryd.func22 rfl (by decide) mix rfl rfl rfl (by simp) rfl ⟨(by first | exact inSL_I _ | trivial | simp), trivial⟩ (by simp) (by intro S _ _ h; simp) (fun F n0 X w ρ hC hro => ?_)
  refine wsr ?_
  refine wp rfl hC (ox_alloc (cs' := recX 0 (List.replicate 16 0) 0 0 .nils) hC zero_39 (by unfold recX; rfl) rfl rfl) ?_
  refine wp rfl hC (oc_assign hC .cint rfl rfl) ?_
  refine WL_nil ?_
  refine wsr ?_
  refine wp rfl hC (oc_move hC (.tmp rfl) rfl rfl) ?_
  refine wp rfl hC (ox_len hC (.tmp rfl) (by first | exact .row rfl | exact .vs | exact .sl rfl | exact .nils) Tryd.underlying25 rfl rfl rfl) ?_
  refine wp rfl hC (oc_bin hC rfl (.tmp rfl) .cint (r := ((m : Nat) : Int)) ((i64_sub (by omega)).trans (by omega)) rfl rfl) ?_
  refine wp rfl hC (oc_assign hC (.tmp rfl) rfl rfl) ?_
  refine WL_nil ?_
  refine W_seq ?_
  refine W_blk ?_
  refine wsr ?_
  refine wp rfl hC (oc_move hC (.tmp rfl) rfl rfl) ?_
  refine wp rfl hC (ox_cmp hC rfl (.tmp rfl) .cint (r := false) (by simp only [cmpI]; exact decide_eq_false (by omega)) rfl rfl) ?_
  refine wp rfl hC (oc_assign hC (.tmp rfl) rfl rfl) ?_
  refine WL_nil ?_
  refine W_cond rfl (by decide) (fun hc => by cases hc) (fun _ => ?_)
  refine W_seq ?_
  refine W_drawD hC ?_
  refine WD_cons (.plain rfl (oc_move hC (.tmp rfl) rfl rfl)) ?_
  refine WD_cons (.plain rfl (oc_move hC (.tmp rfl) rfl rfl)) ?_
  refine WD_cons (.plain rfl (ox_cutS (u' := .vs (s.drop m).length (I .u8 (s.drop m))) hC (.tmp rfl) (.yes (n := m) (.tmp rfl) (by first | rfl | omega | (simp; omega))) .no idx_25 (by first | exact .row rfl (Nat.mul_one _) | exact .sl rfl | exact .vs (by first | omega | (simp <;> fail) | (simp; omega)) | exact .nils) (by first | omega | (simp <;> fail) | (simp; omega)) (by first | omega | (simp <;> fail) | (simp; omega)) (by rw [cut_vsI]; exact cut_rest hns) rfl rfl)) ?_
  refine WD_cons (.plain rfl (oc_callG (τ := fun k => bif Nat.beq k 0 then 1 else k) (N' := 2) hC .func (.cons (.tmp rfl) .nil) (.v1 (by first | exact .free (by first | exact inSL_I _ | simp) | exact .row rfl rfl (by first | exact inSL_I _ | simp) | exact .nils | exact .sl1 rfl (by first | exact cut_I | rfl) (by first | exact inSL_I _ | simp)) .end) (new_c _ (s.drop m) rfl (by rw [List.length_drop]; omega)) glob_nil mr_nil (mr_cons (by first | exact ren_blkI | exact ren_rowI | exact Blk.ren_free (by simp) _ | rfl) rfl mr_nil) rfl rd_nil rfl rfl rfl rfl (by first | exact .inl rfl | exact .inr ⟨by simp, (nv_cons (by first | exact novsL_I _ | simp) nv_nil)⟩) rfl (dst_ok rfl rfl) (fun t => setE_cons _ _ _ _))) ?_
  refine WD_cons (.plain rfl (oc_callG (τ := fun k => bif Nat.beq k 0 then 1 else k) (N' := 2) hC .func (.cons (.tmp rfl) (.cons .cint .nil)) (.own (by first | rfl | simp) (.v1 (.free (by first | exact inSL_I _ | simp)) .end)) (fixr_u (s.drop m) [] 0 0 hbd (by omega) (s.drop m) 4 hfx) glob_nil (mr_cons (by first | exact ren_blkI | exact ren_rowI | exact Blk.ren_free (by simp) _ | rfl) rfl mr_nil) (mr_cons (by first | exact ren_blkI | exact ren_rowI | exact Blk.ren_free (by simp) _ | rfl) rfl mr_nil) rfl (rd_cons rfl rd_nil) rfl rfl rfl rfl (by first | exact .inl rfl | exact .inr ⟨by simp, (nv_cons (by first | exact novsL_I _ | simp) nv_nil)⟩) rfl (dst_ok rfl rfl) (fun t => setE_cons _ _ _ _))) ?_
  refine WD_cons (.plain rfl (oc_move hC (.tmp rfl) rfl rfl)) ?_
  refine WD_cons (.plain rfl (oc_move hC (.tmp rfl) rfl rfl)) ?_
  refine WD_cons (.plain rfl (ox_cutS (u' := .vs (s.take m).length (I .u8 (s.take m))) hC (.tmp rfl) .no (.yes (n := m) (.tmp rfl) (by first | rfl | omega | (simp; omega))) idx_25 (by first | exact .row rfl (Nat.mul_one _) | exact .sl rfl | exact .vs (by first | omega | (simp <;> fail) | (simp; omega)) | exact .nils) (by first | omega | (simp <;> fail) | (simp; omega)) (by first | omega | (simp <;> fail) | (simp; omega)) (by rw [cut_vsI]; exact cut_pre hns (by omega)) rfl rfl)) ?_
  refine WD_cons (.plain rfl (ox_lit hC (.cons (.tmp rfl) .nil) Tryd.underlying78 cells_25 zero_25 rfl (by decide) rfl rfl (by first | rfl | simp) rfl rfl)) ?_
  refine WD_cons (.plain rfl (oc_call hC (.cons (.tmp rfl) .nil) (.vs (.free (inSL_I _) (.same trivial)) (.same trivial)) (sumof_c (s.take m).length (s.take m) rfl hbt (by rw [List.length_take]; omega)) (glob_cons rfl rfl (by first | exact inSL_I _ | simp) glob_nil) (by first | exact inSL_I _ | simp) (by first | exact .inl rfl | exact .inr (by simp)) rfl rfl)) ?_
  refine WD_cons (.plain rfl (oc_conv hC (.tmp rfl) rfl Tryd.underlying55 (r := ((crcS (s.take m) : Nat) : Int)) (u64_conv (by omega)) rfl rfl)) ?_
  refine WD_cons (.plain rfl (ox_cmp hC rfl (.tmp rfl) (.tmp rfl) (r := false) (by rw [hs]; simp [cmpI]) rfl rfl)) ?_
  refine WD_cons (.plain rfl (oc_assign hC (.tmp rfl) rfl rfl)) ?_
  refine WD_nil (by kernel_rfl) ?_
  refine W_cond rfl (by decide) (fun hc => by cases hc) (fun _ => ?_)
  refine W_seq ?_
  rcases hmg with hmg | hmg
  ·
    refine W_region ?_
    refine wp rfl hC (oc_move hC (.tmp rfl) rfl rfl) ?_
    refine wp rfl hC (ox_cmp hC rfl (.tmp rfl) .cint (r := true) (by simp only [cmpI]; exact decide_eq_true (by omega)) rfl rfl) ?_
    refine wp rfl hC (oc_move hC (.tmp rfl) rfl rfl) ?_
    refine WL_cons hC.fn (.no (s1 := ⟨_, (34, .tu []) :: _, _⟩) rfl rfl (by decide) rfl (by decide) (fun t ht => by cases ht; exact ⟨blt_lt rfl, blt_lt rfl⟩) (fun t => setE_cons _ _ _ _) rfl rfl) ?_
    refine WL_cons hC.fn (.no (s1 := ⟨_, (35, .tu []) :: _, _⟩) rfl rfl (by decide) rfl (by decide) (fun t ht => by cases ht; exact ⟨blt_lt rfl, blt_lt rfl⟩) (fun t => setE_cons _ _ _ _) rfl rfl) ?_
    refine WL_cons hC.fn (.no (s1 := ⟨_, (36, .tu []) :: _, _⟩) rfl rfl (by decide) rfl (by decide) (fun t ht => by cases ht; exact ⟨blt_lt rfl, blt_lt rfl⟩) (fun t => setE_cons _ _ _ _) rfl rfl) ?_
    refine WL_cons hC.fn (.no (s1 := ⟨_, (37, .tu []) :: _, _⟩) rfl rfl (by decide) rfl (by decide) (fun t ht => by cases ht; exact ⟨blt_lt rfl, blt_lt rfl⟩) (fun t => setE_cons _ _ _ _) rfl rfl) ?_
    refine wp rfl hC (ox_pick hC (.tmp rfl) .cbool (.tmp rfl) (by first | exact pick_t | exact pick_f | rfl) rfl rfl) ?_
    refine wp rfl hC (oc_assign hC (.tmp rfl) rfl rfl) ?_
    refine WL_nil ?_
    refine W_cond rfl (by decide) (fun _ => ?_) (fun hc => by cases hc)
    refine wsr ?_
    refine wp rfl hC (ox_build (out' := recX 0 (List.replicate 16 0) 0 0 .nils) hC .nil zero_39 bld_39 rfl (by unfold recX; rfl) rfl rfl) ?_
    refine wp rfl hC (ox_store (bk' := .blk 39 (recX 0 (List.replicate 16 0) 0 0 .nils)) hC (.tmp rfl) (.tmp rfl) rfl shp_39 (flat_recX rfl) (by rw [cells_ag, length_recX rfl]) (by show _ ≤ (recX _ _ _ _ _).length; rw [length_recX rfl]; decide) (put_rall rfl rfl) (by first | exact .here | exact .s1 rfl | exact .s2 rfl rfl | exact .s3 rfl rfl rfl | exact .s4 rfl rfl rfl rfl | exact .s5 rfl rfl rfl rfl rfl | exact .s6 rfl rfl rfl rfl rfl rfl | exact .s7 rfl rfl rfl rfl rfl rfl rfl | exact .s8 rfl rfl rfl rfl rfl rfl rfl rfl) rfl) ?_
    refine wp rfl hC (oc_assign hC .cint rfl rfl) ?_
    refine WL_nil ?_
    refine W_ret ?_
    exact fin0 (.cons (.cell rfl (.p rfl) shp_39 (unit_rall (by first | rfl | exact length_idP _ (Nat.le_refl _)))) (.cons (.tmp rfl) .nil)) rfl (by simp)
  ·
    refine W_region ?_
    refine wp rfl hC (oc_move hC (.tmp rfl) rfl rfl) ?_
    refine wp rfl hC (ox_cmp hC rfl (.tmp rfl) .cint (r := false) (by simp only [cmpI]; exact decide_eq_false (by omega)) rfl rfl) ?_
    refine wp rfl hC (oc_move hC (.tmp rfl) rfl rfl) ?_
    refine WL_cons hC.fn (.yes rfl rfl (by decide) rfl (oc_move hC (.tmp rfl) rfl rfl)) ?_
    refine WL_cons hC.fn (.yes rfl rfl (by decide) rfl (ox_cutS (u' := .vs (s.take 4).length (I .u8 (s.take 4))) hC (.tmp rfl) .no (.yes (n := 4) .cint (by first | rfl | omega | (simp; omega))) idx_25 (by first | exact .row rfl (Nat.mul_one _) | exact .sl rfl | exact .vs (by first | omega | (simp <;> fail) | (simp; omega)) | exact .nils) (by first | omega | (simp <;> fail) | (simp; omega)) (by first | omega | (simp <;> fail) | (simp; omega)) (by rw [cut_vsI]; exact cut_pre hns (by omega)) rfl rfl)) ?_
    refine WL_cons hC.fn (.yes rfl rfl (by decide) rfl (ox_b2s (l := (s.take 4)) hC (.tmp rfl) (by first | exact .row rfl | exact .vs | exact .sl rfl | exact .nils) (take_allI rfl) rfl Tryd.underlying25 Tryd.underlying5 Tryd.underlying9 rfl rfl)) ?_
    refine WL_cons hC.fn (.yes rfl rfl (by decide) rfl (ox_eqs hC (.inr rfl) (.tmp rfl) .cstr (r := true) (by simp [mg_ne hmg.2 hb4]) rfl rfl)) ?_
    refine wp rfl hC (ox_pick hC (.tmp rfl) .cbool (.tmp rfl) (by first | exact pick_t | exact pick_f | rfl) rfl rfl) ?_
    refine wp rfl hC (oc_assign hC (.tmp rfl) rfl rfl) ?_
    refine WL_nil ?_
    refine W_cond rfl (by decide) (fun _ => ?_) (fun hc => by cases hc)
    refine wsr ?_
    refine wp rfl hC (ox_build (out' := recX 0 (List.replicate 16 0) 0 0 .nils) hC .nil zero_39 bld_39 rfl (by unfold recX; rfl) rfl rfl) ?_
    refine wp rfl hC (ox_store (bk' := .blk 39 (recX 0 (List.replicate 16 0) 0 0 .nils)) hC (.tmp rfl) (.tmp rfl) rfl shp_39 (flat_recX rfl) (by rw [cells_ag, length_recX rfl]) (by show _ ≤ (recX _ _ _ _ _).length; rw [length_recX rfl]; decide) (put_rall rfl rfl) (by first | exact .here | exact .s1 rfl | exact .s2 rfl rfl | exact .s3 rfl rfl rfl | exact .s4 rfl rfl rfl rfl | exact .s5 rfl rfl rfl rfl rfl | exact .s6 rfl rfl rfl rfl rfl rfl | exact .s7 rfl rfl rfl rfl rfl rfl rfl | exact .s8 rfl rfl rfl rfl rfl rfl rfl rfl) rfl) ?_
    refine wp rfl hC (oc_assign hC .cint rfl rfl) ?_
    refine WL_nil ?_
    refine W_ret ?_
    exact fin0 (.cons (.cell rfl (.p rfl) shp_39 (unit_rall (by first | rfl | exact length_idP _ (Nat.le_refl _)))) (.cons (.tmp rfl) .nil)) rfl (by simp)
set_option maxRecDepth 20000 in
set_option maxHeartbeats 4000000 in
theorem decerr_c (s : List Int) (ns m : Nat) (hns : s.length = ns) (bs : B8 s) (hl : ns ≤ 1099511627776) (hm : ns = m + 4 + 4) (hs : vle (s.drop (m + 4)) = ((crcS (s.take (m + 4)) : Nat) : Int)) (hmg : s.take 4 = [84, 65, 80, 69]) (x0 : List Int) (C : Nat → List Int) (E : Nat → Int) (Y : Nat → List Int) (e1 e2 e3 v n kk : Int) (c1 c2 c3 : List Int) (h0 : FixS ((s.drop 4).take m) 0 1 (E 0) (C 0) x0) (hF : ∀ i, i < 16 → FixS (C i) (E i) 1 (E (i + 1)) (C (i + 1)) (Y i)) (hv : NumS (C 16) (E 16) 63 e1 c1 v) (hn : NumS c1 e1 1099511627775 e2 c2 n) (hk : NumS c2 e2 262144 e3 c3 kk) (he : e3 ≠ 0) : FnC Tryd.prog 22 [(1000000, .rp (I .u32 nibT))] [.vs ns (I .u8 s)] [] [] (.tu [.ag (recX 0 (List.replicate 16 0) 0 0 .nils), .i .i64 e3]) := by
  have hdl : (s.drop (m + 4)).length = 4 := by rw [List.length_drop]; omega
  have hbd : B8 (s.drop (m + 4)) := fun x hx => bs x (List.mem_of_mem_drop hx)
  have hbt : B8 (s.take (m + 4)) := fun x hx => bs x (List.mem_of_mem_take hx)
  have hcr := crcS_lt hbt
  have hfx : FixS (s.drop (m + 4)) 0 4 0 [] (s.drop (m + 4)) := fix_all hdl
  have hcl : ((s.drop 4).take m).length = m := by rw [List.length_take, List.length_drop]; omega
  have bc : B8 ((s.drop 4).take m) := fun x hx => bs x (List.mem_of_mem_drop (List.mem_of_mem_take hx))
  have hx0 := h0.val bc
  have hch := chain_ok h0 hF bc
  have hi16 := length_idP Y (Nat.le_refl 16)
  have b16 := (hch 16 (Nat.le_refl _)).1
  have l16 := (hch 16 (Nat.le_refl _)).2
  have b1 := hv.b8 b16
  have l1 := hv.len
  have b2 := hn.b8 b1
  have l2 := hn.len
  have b3 := hk.b8 b2
  have l3 := hk.len
  refine FnC.introR (N0 := 0) (T := 81) (E := [(0, .vs ns (I .u8 s)), (1000000, .rp (I .u32 nibT))]) Tryd.func22 rfl (by decide) mix rfl rfl rfl (by simp) rfl ⟨(by first | exact inSL_I _ | trivial | simp), trivial⟩ (by simp) (by intro S _ _ h; simp) (fun F n0 X w ρ hC hro => ?_)
  refine wsr ?_
  refine wp rfl hC (ox_alloc (cs' := recX 0 (List.replicate 16 0) 0 0 .nils) hC zero_39 (by unfold recX; rfl) rfl rfl) ?_
  refine wp rfl hC (oc_assign hC .cint rfl rfl) ?_
  refine WL_nil ?_
  refine wsr ?_
  refine wp rfl hC (oc_move hC (.tmp rfl) rfl rfl) ?_
  refine wp rfl hC (ox_len hC (.tmp rfl) (by first | exact .row rfl | exact .vs | exact .sl rfl | exact .nils) Tryd.underlying25 rfl rfl rfl) ?_
  refine wp rfl hC (oc_bin hC rfl (.tmp rfl) .cint (r := (((m + 4) : Nat) : Int)) ((i64_sub (by omega)).trans (by omega)) rfl rfl) ?_
  refine wp rfl hC (oc_assign hC (.tmp rfl) rfl rfl) ?_
  refine WL_nil ?_
  refine W_seq ?_
  refine W_blk ?_
  refine wsr ?_
  refine wp rfl hC (oc_move hC (.tmp rfl) rfl rfl) ?_
  refine wp rfl hC (ox_cmp hC rfl (.tmp rfl) .cint (r := false) (by simp only [cmpI]; exact decide_eq_false (by omega)) rfl rfl) ?_
  refine wp rfl hC (oc_assign hC (.tmp rfl) rfl rfl) ?_
  refine WL_nil ?_
  refine W_cond rfl (by decide) (fun hc => by cases hc) (fun _ => ?_)
  refine W_seq ?_
  refine W_drawD hC ?_
  refine WD_cons (.plain rfl (oc_move hC (.tmp rfl) rfl rfl)) ?_
  refine WD_cons (.plain rfl (oc_move hC (.tmp rfl) rfl rfl)) ?_
  refine WD_cons (.plain rfl (ox_cutS (u' := .vs (s.drop (m + 4)).length (I .u8 (s.drop (m + 4)))) hC (.tmp rfl) (.yes (n := (m + 4)) (.tmp rfl) (by first | rfl | omega | (simp; omega))) .no idx_25 (by first | exact .row rfl (Nat.mul_one _) | exact .sl rfl | exact .vs (by first | omega | (simp <;> fail) | (simp; omega)) | exact .nils) (by first | omega | (simp <;> fail) | (simp; omega)) (by first | omega | (simp <;> fail) | (simp; omega)) (by rw [cut_vsI]; exact cut_rest hns) rfl rfl)) ?_
  refine WD_cons (.plain rfl (oc_callG (τ := fun k => bif Nat.beq k 0 then 1 else k) (N' := 2) hC .func (.cons (.tmp rfl) .nil) (.v1 (by first | exact .free (by first | exact inSL_I _ | simp) | exact .row rfl rfl (by first | exact inSL_I _ | simp) | exact .nils | exact .sl1 rfl (by first | exact cut_I | rfl) (by first | exact inSL_I _ | simp)) .end) (new_c _ (s.drop (m + 4)) rfl (by rw [List.length_drop]; omega)) glob_nil mr_nil (mr_cons (by first | exact ren_blkI | exact ren_rowI | exact Blk.ren_free (by simp) _ | rfl) rfl mr_nil) rfl rd_nil rfl rfl rfl rfl (by first | exact .inl rfl | exact .inr ⟨by simp, (nv_cons (by first | exact novsL_I _ | simp) nv_nil)⟩) rfl (dst_ok rfl rfl) (fun t => setE_cons _ _ _ _))) ?_
  refine WD_cons (.plain rfl (oc_callG (τ := fun k => bif Nat.beq k 0 then 1 else k) (N' := 2) hC .func (.cons (.tmp rfl) (.cons .cint .nil)) (.own (by first | rfl | simp) (.v1 (.free (by first | exact inSL_I _ | simp)) .end)) (fixr_u (s.drop (m + 4)) [] 0 0 hbd (by omega) (s.drop (m + 4)) 4 hfx) glob_nil (mr_cons (by first | exact ren_blkI | exact ren_rowI | exact Blk.ren_free (by simp) _ | rfl) rfl mr_nil) (mr_cons (by first | exact ren_blkI | exact ren_rowI | exact Blk.ren_free (by simp) _ | rfl) rfl mr_nil) rfl (rd_cons rfl rd_nil) rfl rfl rfl rfl (by first | exact .inl rfl | exact .inr ⟨by simp, (nv_cons (by first | exact novsL_I _ | simp) nv_nil)⟩) rfl (dst_ok rfl rfl) (fun t => setE_cons _ _ _ _))) ?_
  refine WD_cons (.plain rfl (oc_move hC (.tmp rfl) rfl rfl)) ?_
  refine WD_cons (.plain rfl (oc_move hC (.tmp rfl) rfl rfl)) ?_
  refine WD_cons (.plain rfl (ox_cutS (u' := .vs (s.take (m + 4)).length (I .u8 (s.take (m + 4)))) hC (.tmp rfl) .no (.yes (n := (m + 4)) (.tmp rfl) (by first | rfl | omega | (simp; omega))) idx_25 (by first | exact .row rfl (Nat.mul_one _) | exact .sl rfl | exact .vs (by first | omega | (simp <;> fail) | (simp; omega)) | exact .nils) (by first | omega | (simp <;> fail) | (simp; omega)) (by first | omega | (simp <;> fail) | (simp; omega)) (by rw [cut_vsI]; exact cut_pre hns (by omega)) rfl rfl)) ?_
  refine WD_cons (.plain rfl (ox_lit hC (.cons (.tmp rfl) .nil) Tryd.underlying78 cells_25 zero_25 rfl (by decide) rfl rfl (by first | rfl | simp) rfl rfl)) ?_
  refine WD_cons (.plain rfl (oc_call hC (.cons (.tmp rfl) .nil) (.vs (.free (inSL_I _) (.same trivial)) (.same trivial)) (sumof_c (s.take (m + 4)).length (s.take (m + 4)) rfl hbt (by rw [List.length_take]; omega)) (glob_cons rfl rfl (by first | exact inSL_I _ | simp) glob_nil) (by first | exact inSL_I _ | simp) (by first | exact .inl rfl | exact .inr (by simp)) rfl rfl)) ?_
  refine WD_cons (.plain rfl (oc_conv hC (.tmp rfl) rfl Tryd.underlying55 (r := ((crcS (s.take (m + 4)) : Nat) : Int)) (u64_conv (by omega)) rfl rfl)) ?_
  refine WD_cons (.plain rfl (ox_cmp hC rfl (.tmp rfl) (.tmp rfl) (r := false) (by rw [hs]; simp [cmpI]) rfl rfl)) ?_
  refine WD_cons (.plain rfl (oc_assign hC (.tmp rfl) rfl rfl)) ?_
  refine WD_nil (by kernel_rfl) ?_
  refine W_cond rfl (by decide) (fun hc => by cases hc) (fun _ => ?_)
  refine wsr ?_
  refine wp rfl hC (oc_move hC (.tmp rfl) rfl rfl) ?_
  refine wp rfl hC (ox_cmp hC rfl (.tmp rfl) .cint (r := false) (by simp only [cmpI]; exact decide_eq_false (by omega)) rfl rfl) ?_
  refine wp rfl hC (oc_move hC (.tmp rfl) rfl rfl) ?_
  refine WL_cons hC.fn (.yes rfl rfl (by decide) rfl (oc_move hC (.tmp rfl) rfl rfl)) ?_
  refine WL_cons hC.fn (.yes rfl rfl (by decide) rfl (ox_cutS (u' := .vs (s.take 4).length (I .u8 (s.take 4))) hC (.tmp rfl) .no (.yes (n := 4) .cint (by first | rfl | omega | (simp; omega))) idx_25 (by first | exact .row rfl (Nat.mul_one _) | exact .sl rfl | exact .vs (by first | omega | (simp <;> fail) | (simp; omega)) | exact .nils) (by first | omega | (simp <;> fail) | (simp; omega)) (by first | omega | (simp <;> fail) | (simp; omega)) (by rw [cut_vsI]; exact cut_pre hns (by omega)) rfl rfl)) ?_
  refine WL_cons hC.fn (.yes rfl rfl (by decide) rfl (ox_b2s (l := (s.take 4)) hC (.tmp rfl) (by first | exact .row rfl | exact .vs | exact .sl rfl | exact .nils) (take_allI rfl) rfl Tryd.underlying25 Tryd.underlying5 Tryd.underlying9 rfl rfl)) ?_
  refine WL_cons hC.fn (.yes rfl rfl (by decide) rfl (ox_eqs hC (.inr rfl) (.tmp rfl) .cstr (r := false) (by rw [hmg]; decide) rfl rfl)) ?_
  refine wp rfl hC (ox_pick hC (.tmp rfl) .cbool (.tmp rfl) (by first | exact pick_t | exact pick_f | rfl) rfl rfl) ?_
  refine wp rfl hC (oc_assign hC (.tmp rfl) rfl rfl) ?_
  refine WL_nil ?_
  refine W_cond rfl (by decide) (fun hc => by cases hc) (fun _ => ?_)
  refine W_skip ?_
  refine wsr ?_
  refine wp rfl hC (ox_alloc (cs' := recX 0 (List.replicate 16 0) 0 0 .nils) hC zero_39 (by unfold recX; rfl) rfl rfl) ?_
  refine WL_nil ?_
  refine wsr ?_
  refine wp rfl hC (oc_move hC (.tmp rfl) rfl rfl) ?_
  refine wp rfl hC (oc_move hC (.tmp rfl) rfl rfl) ?_
  refine wp rfl hC (ox_cutS (u' := .vs ((s.drop 4).take m).length (I .u8 ((s.drop 4).take m))) hC (.tmp rfl) (.yes (n := 4) .cint (by first | rfl | omega | (simp; omega))) (.yes (n := (m + 4)) (.tmp rfl) (by first | rfl | omega | (simp; omega))) idx_25 (by first | exact .row rfl (Nat.mul_one _) | exact .sl rfl | exact .vs (by first | omega | (simp <;> fail) | (simp; omega)) | exact .nils) (by first | omega | (simp <;> fail) | (simp; omega)) (by first | omega | (simp <;> fail) | (simp; omega)) (by rw [cut_vsI, hcl]; simp) rfl rfl) ?_
  refine wp rfl hC (oc_callG (τ := fun k => bif Nat.beq k 0 then 3 else k) (N' := 4) hC .func (.cons (.tmp rfl) .nil) (.v1 (by first | exact .free (by first | exact inSL_I _ | simp) | exact .row rfl rfl (by first | exact inSL_I _ | simp) | exact .nils | exact .sl1 rfl (by first | exact cut_I | rfl) (by first | exact inSL_I _ | simp)) .end) (new_c _ ((s.drop 4).take m) rfl (by omega)) glob_nil mr_nil (mr_cons (by first | exact ren_blkI | exact ren_rowI | exact Blk.ren_free (by simp) _ | rfl) rfl mr_nil) rfl rd_nil rfl rfl rfl rfl (by first | exact .inl rfl | exact .inr ⟨by simp, (nv_cons (by first | exact novsL_I _ | simp) nv_nil)⟩) rfl (dst_ok rfl rfl) (fun t => setE_cons _ _ _ _)) ?_
  refine wp rfl hC (oc_assign hC (.tmp rfl) rfl rfl) ?_
  refine WL_nil ?_
  refine wsr ?_
  refine wp rfl hC (oc_move hC (.tmp rfl) rfl rfl) ?_
  refine wp rfl hC (oc_callG (τ := fun k => bif Nat.beq k 0 then 3 else k) (N' := 4) hC .func (.cons (.tmp rfl) (.cons .cint .nil)) (.own (by first | rfl | simp) (.v1 (.free (by first | exact inSL_I _ | simp)) .end)) (fixr_u ((s.drop 4).take m) (C 0) 0 (E 0) bc (by omega) x0 1 h0) glob_nil (mr_cons (by first | exact ren_blkI | exact ren_rowI | exact Blk.ren_free (by simp) _ | rfl) rfl mr_nil) (mr_cons (by first | exact ren_blkI | exact ren_rowI | exact Blk.ren_free (by simp) _ | rfl) rfl mr_nil) rfl (rd_cons rfl rd_nil) rfl rfl rfl rfl (by first | exact .inl rfl | exact .inr ⟨by simp, (nv_cons (by first | exact novsL_I _ | simp) nv_nil)⟩) rfl (dst_ok rfl rfl) (fun t => setE_cons _ _ _ _)) ?_
  refine wp rfl hC (oc_conv hC (.tmp rfl) rfl Tryd.underlying3 (r := (vle x0)) (i64_conv (by omega)) rfl rfl) ?_
  refine wp rfl hC (oc_field hC (.tmp rfl) fld_39_0 (by decide) (by first | exact .p (Nat.zero_add _) | exact .p rfl | exact .rp (by decide)) rfl rfl) ?_
  refine wp rfl hC (ox_store (bk' := .blk 39 (recX (vle x0) (List.replicate 16 0) 0 0 .nils)) hC (.tmp rfl) (.tmp rfl) rfl shp_3 (by first | rfl | exact flat_agI) (by first | exact cells1 rfl | (rw [cells_ag, length_I]; omega) | rfl | (simp <;> fail) | (simp; omega)) (by show _ ≤ (recX _ _ _ _ _).length; rw [length_recX rfl]; decide) put_rk (by first | exact .here | exact .s1 rfl | exact .s2 rfl rfl | exact .s3 rfl rfl rfl | exact .s4 rfl rfl rfl rfl | exact .s5 rfl rfl rfl rfl rfl | exact .s6 rfl rfl rfl rfl rfl rfl | exact .s7 rfl rfl rfl rfl rfl rfl rfl | exact .s8 rfl rfl rfl rfl rfl rfl rfl rfl) rfl) ?_
  refine WL_nil ?_
  refine W_seq ?_
  refine wsr ?_
  refine wp rfl hC (oc_move hC .cint rfl rfl) ?_
  refine WL_nil ?_
  refine W_blk ?_
  refine W_loopW (fun (ζ : Nat) => ⟨4, [(2, .p 0 0), (3, .i .i64 0), (5, .p 2 0), (6, .p 3 0), (48, .i .i64 ζ), (1000000, .rp (I .u32 nibT))], [(0, .blk 39 (recX 0 (List.replicate 16 0) 0 0 .nils)), (2, .blk 39 (recX (vle x0) (idP Y ζ) 0 0 .nils)), (3, .blk 70 [.vs (C ζ).length (I .u8 (C ζ)), .i .i64 (E ζ)])]⟩) (fun ζ => ζ ≤ 16) (fun ζ => 16 - ζ) (0) (Nat.zero_le _) (weak (fun k => k) (.cons rfl (by first | rfl | simp) (by show _ < _; decide) (.cons rfl (by first | rfl | exact congrArg (AV.i _) (by omega) | exact congrArg (AV.i _) (by simp; omega)) trivial (.cons rfl (by first | rfl | simp) (by show _ < _; decide) (.cons rfl (by first | rfl | simp) (by show _ < _; decide) (.cons rfl rfl trivial (.cons rfl (by first | exact ren_agI | exact ren_vsI | exact ren_free _ _ (by first | exact inSL_I _ | simp)) (by first | exact inSL_I _ | simp) .nil)))))) (.cons rfl ren_rec0 rfl (by first | exact inSL_I _ | simp) (.cons rfl (ren_rec0.trans (by rw [idP_zero])) rfl (by first | exact inSL_I _ | simp) (.cons rfl (Blk.ren_free (by simp) _) rfl (by first | exact inSL_I _ | simp) .nil))) rfl rfl rfl) ?_
  intro i hR
  replace hR : i ≤ 16 := hR
  first | show W _ _ _ ⟨4, [(2, .p 0 0), (3, .i .i64 0), (5, .p 2 0), (6, .p 3 0), (48, .i .i64 i), (1000000, .rp (I .u32 nibT))], [(0, .blk 39 (recX 0 (List.replicate 16 0) 0 0 .nils)), (2, .blk 39 (recX (vle x0) (idP Y i) 0 0 .nils)), (3, .blk 70 [.vs (C i).length (I .u8 (C i)), .i .i64 (E i)])]⟩ | skip
  have hii := length_idP Y hR
  refine wsr ?_
  refine wp rfl hC (ox_cmp hC rfl (.tmp rfl) .cint rfl rfl rfl) ?_
  refine WL_nil ?_
  refine W_seq ?_
  refine W_cond rfl (by decide) (fun hc => ?_) (fun hc => ?_)
  ·
    replace hc := lss_t hc
    have hfi := hF i (by omega)
    have hbi := (hch i (by omega)).1
    have hli := (hch i (by omega)).2
    have hxi := hfi.val hbi
    refine W_skip ?_
    refine W_seq ?_
    refine W_blk ?_
    refine wsr ?_
    refine wp rfl hC (oc_move hC (.tmp rfl) rfl rfl) ?_
    refine wp rfl hC (oc_assign hC (.tmp rfl) rfl rfl) ?_
    refine WL_nil ?_
    refine W_region ?_
    refine wp rfl hC (oc_move hC (.tmp rfl) rfl rfl) ?_
    refine wp rfl hC (oc_move hC (.tmp rfl) rfl rfl) ?_
    refine wp rfl hC (oc_callG (τ := fun k => bif Nat.beq k 0 then 3 else k) (N' := 4) hC .func (.cons (.tmp rfl) (.cons .cint .nil)) (.own (by first | rfl | simp) (.v1 (.free (by first | exact inSL_I _ | simp)) .end)) (fixr_u (C i) (C (i + 1)) (E i) (E (i + 1)) hbi (by omega) (Y i) 1 hfi) glob_nil (mr_cons (by first | exact ren_blkI | exact ren_rowI | exact Blk.ren_free (by simp) _ | rfl) rfl mr_nil) (mr_cons (by first | exact ren_blkI | exact ren_rowI | exact Blk.ren_free (by simp) _ | rfl) rfl mr_nil) rfl (rd_cons rfl rd_nil) rfl rfl rfl rfl (by first | exact .inl rfl | exact .inr ⟨by simp, (nv_cons (by first | exact novsL_I _ | simp) nv_nil)⟩) rfl (dst_ok rfl rfl) (fun t => setE_cons _ _ _ _)) ?_
    refine wp rfl hC (oc_conv hC (.tmp rfl) rfl Tryd.underlying5 (r := (vle (Y i))) (u8_conv (by omega)) rfl rfl) ?_
    refine wp rfl hC (oc_field hC (.tmp rfl) fld_39_1 (by decide) (by first | exact .p (Nat.zero_add _) | exact .p rfl | exact .rp (by decide)) rfl rfl) ?_
    refine wp rfl hC (ox_indexA hC (j := i) (.tmp rfl) (.tmp rfl) idx_37 (by first | rfl | omega | (simp; omega)) (by omega) (by first | exact Nat.mul_one _ | rfl) (by first | exact .p (Nat.zero_add _) | exact .p rfl | exact .rp (by first | omega | (simp <;> fail) | (simp; omega))) rfl rfl) ?_
    refine wp rfl hC (ox_store (bk' := .blk 39 (recX (vle x0) ((idP Y i).set i (vle (Y i))) 0 0 .nils)) hC (.tmp rfl) (.tmp rfl) rfl shp_5 (by first | rfl | exact flat_agI) (by first | exact cells1 rfl | (rw [cells_ag, length_I]; omega) | rfl | (simp <;> fail) | (simp; omega)) (by show _ ≤ (recX _ _ _ _ _).length; rw [length_recX hii]; omega) (put_rid hii (by omega)) (by first | exact .here | exact .s1 rfl | exact .s2 rfl rfl | exact .s3 rfl rfl rfl | exact .s4 rfl rfl rfl rfl | exact .s5 rfl rfl rfl rfl rfl | exact .s6 rfl rfl rfl rfl rfl rfl | exact .s7 rfl rfl rfl rfl rfl rfl rfl | exact .s8 rfl rfl rfl rfl rfl rfl rfl rfl) rfl) ?_
    refine WL_nil ?_
    refine W_region ?_
    refine wp rfl hC (oc_bin hC rfl (.tmp rfl) .cint (by first | exact i64_add (by omega) | rfl) rfl rfl) ?_
    refine wp rfl hC (oc_move hC (.tmp rfl) rfl rfl) ?_
    refine WL_nil ?_
    exact ⟨(i + 1), (by omega), (weak (fun k => k) (.cons rfl (by first | rfl | simp) (by show _ < _; decide) (.cons rfl (by first | rfl | exact congrArg (AV.i _) (by omega) | exact congrArg (AV.i _) (by simp; omega)) trivial (.cons rfl (by first | rfl | simp) (by show _ < _; decide) (.cons rfl (by first | rfl | simp) (by show _ < _; decide) (.cons rfl (by first | rfl | exact congrArg (AV.i _) (by omega) | exact congrArg (AV.i _) (by simp; omega)) trivial (.cons rfl (by first | exact ren_agI | exact ren_vsI | exact ren_free _ _ (by first | exact inSL_I _ | simp)) (by first | exact inSL_I _ | simp) .nil)))))) (.cons rfl ren_rec0 rfl (by first | exact inSL_I _ | simp) (.cons rfl (ren_rec0.trans (by rw [idP_set (by omega)])) rfl (by first | exact inSL_I _ | simp) (.cons rfl (Blk.ren_free (by simp) _) rfl (by first | exact inSL_I _ | simp) .nil))) rfl rfl rfl), (by omega)⟩
  ·
    replace hc := lss_f hc
    obtain rfl : i = 16 := by omega
    refine W_exit ?_
    refine wsr ?_
    refine wp rfl hC (oc_move hC (.tmp rfl) rfl rfl) ?_
    refine wp rfl hC (oc_callG (τ := fun k => bif Nat.beq k 0 then 3 else k) (N' := 4) hC .func (.cons (.tmp rfl) (.cons .cint .nil)) (.own (by first | rfl | simp) (.v1 (.free (by first | exact inSL_I _ | simp)) .end)) (num_u (C 16) c1 (E 16) e1 b16 (by omega) 63 v hv) glob_nil (mr_cons (by first | exact ren_blkI | exact ren_rowI | exact Blk.ren_free (by simp) _ | rfl) rfl mr_nil) (mr_cons (by first | exact ren_blkI | exact ren_rowI | exact Blk.ren_free (by simp) _ | rfl) rfl mr_nil) rfl (rd_cons rfl rd_nil) rfl rfl rfl rfl (by first | exact .inl rfl | exact .inr ⟨by simp, (nv_cons (by first | exact novsL_I _ | simp) nv_nil)⟩) rfl (dst_ok rfl rfl) (fun t => setE_cons _ _ _ _)) ?_
    refine wp rfl hC (oc_field hC (.tmp rfl) fld_39_2 (by decide) (by first | exact .p (Nat.zero_add _) | exact .p rfl | exact .rp (by decide)) rfl rfl) ?_
    refine wp rfl hC (ox_store (bk' := .blk 39 (recX (vle x0) (idP Y 16) v 0 .nils)) hC (.tmp rfl) (.tmp rfl) rfl shp_3 (by first | rfl | exact flat_agI) (by first | exact cells1 rfl | (rw [cells_ag, length_I]; omega) | rfl | (simp <;> fail) | (simp; omega)) (by show _ ≤ (recX _ _ _ _ _).length; rw [length_recX hi16]; decide) (put_rv hi16) (by first | exact .here | exact .s1 rfl | exact .s2 rfl rfl | exact .s3 rfl rfl rfl | exact .s4 rfl rfl rfl rfl | exact .s5 rfl rfl rfl rfl rfl | exact .s6 rfl rfl rfl rfl rfl rfl | exact .s7 rfl rfl rfl rfl rfl rfl rfl | exact .s8 rfl rfl rfl rfl rfl rfl rfl rfl) rfl) ?_
    refine WL_nil ?_
    refine wsr ?_
    refine wp rfl hC (oc_move hC (.tmp rfl) rfl rfl) ?_
    refine wp rfl hC (oc_callG (τ := fun k => bif Nat.beq k 0 then 3 else k) (N' := 4) hC .func (.cons (.tmp rfl) (.cons .cint .nil)) (.own (by first | rfl | simp) (.v1 (.free (by first | exact inSL_I _ | simp)) .end)) (num_u c1 c2 e1 e2 b1 (by omega) 1099511627775 n hn) glob_nil (mr_cons (by first | exact ren_blkI | exact ren_rowI | exact Blk.ren_free (by simp) _ | rfl) rfl mr_nil) (mr_cons (by first | exact ren_blkI | exact ren_rowI | exact Blk.ren_free (by simp) _ | rfl) rfl mr_nil) rfl (rd_cons rfl rd_nil) rfl rfl rfl rfl (by first | exact .inl rfl | exact .inr ⟨by simp, (nv_cons (by first | exact novsL_I _ | simp) nv_nil)⟩) rfl (dst_ok rfl rfl) (fun t => setE_cons _ _ _ _)) ?_
    refine wp rfl hC (oc_field hC (.tmp rfl) fld_39_3 (by decide) (by first | exact .p (Nat.zero_add _) | exact .p rfl | exact .rp (by decide)) rfl rfl) ?_
    refine wp rfl hC (ox_store (bk' := .blk 39 (recX (vle x0) (idP Y 16) v n .nils)) hC (.tmp rfl) (.tmp rfl) rfl shp_3 (by first | rfl | exact flat_agI) (by first | exact cells1 rfl | (rw [cells_ag, length_I]; omega) | rfl | (simp <;> fail) | (simp; omega)) (by show _ ≤ (recX _ _ _ _ _).length; rw [length_recX hi16]; decide) (put_rn hi16) (by first | exact .here | exact .s1 rfl | exact .s2 rfl rfl | exact .s3 rfl rfl rfl | exact .s4 rfl rfl rfl rfl | exact .s5 rfl rfl rfl rfl rfl | exact .s6 rfl rfl rfl rfl rfl rfl | exact .s7 rfl rfl rfl rfl rfl rfl rfl | exact .s8 rfl rfl rfl rfl rfl rfl rfl rfl) rfl) ?_
    refine WL_nil ?_
    refine wsr ?_
    refine wp rfl hC (oc_move hC (.tmp rfl) rfl rfl) ?_
    refine wp rfl hC (oc_callG (τ := fun k => bif Nat.beq k 0 then 3 else k) (N' := 4) hC .func (.cons (.tmp rfl) (.cons .cint .nil)) (.own (by first | rfl | simp) (.v1 (.free (by first | exact inSL_I _ | simp)) .end)) (bytesuerr_c c2 c3 e2 e3 b2 (by omega) 262144 kk hk he) glob_nil (mr_cons (by first | exact ren_blkI | exact ren_rowI | exact Blk.ren_free (by simp) _ | rfl) rfl mr_nil) (mr_cons (by first | exact ren_blkI | exact ren_rowI | exact Blk.ren_free (by simp) _ | rfl) rfl mr_nil) rfl (rd_cons rfl rd_nil) rfl rfl rfl rfl (by first | exact .inl rfl | exact .inr ⟨by simp, (nv_cons (by first | exact novsL_I _ | simp) nv_nil)⟩) rfl (dst_ok rfl rfl) (fun t => setE_cons _ _ _ _)) ?_
    refine wp rfl hC (oc_field hC (.tmp rfl) fld_39_4 (by decide) (by first | exact .p (Nat.zero_add _) | exact .p rfl | exact .rp (by decide)) rfl rfl) ?_
    refine wp rfl hC (ox_store (bk' := .blk 39 (recX (vle x0) (idP Y 16) v n .nils)) hC (.tmp rfl) (.tmp rfl) rfl shp_25 (by first | rfl | exact flat_agI) rfl (by show _ ≤ (recX _ _ _ _ _).length; rw [length_recX hi16]; decide) (put_rz hi16) (by first | exact .here | exact .s1 rfl | exact .s2 rfl rfl | exact .s3 rfl rfl rfl | exact .s4 rfl rfl rfl rfl | exact .s5 rfl rfl rfl rfl rfl | exact .s6 rfl rfl rfl rfl rfl rfl | exact .s7 rfl rfl rfl rfl rfl rfl rfl | exact .s8 rfl rfl rfl rfl rfl rfl rfl rfl) rfl) ?_
    refine WL_nil ?_
    refine wsr ?_
    refine wp rfl hC (oc_move hC (.tmp rfl) rfl rfl) ?_
    refine wp rfl hC (oc_callG (τ := fun k => bif Nat.beq k 0 then 3 else k) (N' := 4) hC .func (.cons (.tmp rfl) .nil) (.own (by first | rfl | simp) .end) (end_c c3.length c3 e3 rfl b3 (by omega) e3 (.inr (.inr ⟨he, rfl⟩))) glob_nil (mr_cons (by first | exact ren_blkI | exact ren_rowI | exact Blk.ren_free (by simp) _ | rfl) rfl mr_nil) (mr_cons (by first | exact ren_blkI | exact ren_rowI | exact Blk.ren_free (by simp) _ | rfl) rfl mr_nil) rfl (rd_cons rfl rd_nil) rfl rfl rfl rfl (by first | exact .inl rfl | exact .inr ⟨by simp, (nv_cons (by first | exact novsL_I _ | simp) nv_nil)⟩) rfl (dst_ok rfl rfl) (fun t => setE_cons _ _ _ _)) ?_
    refine wp rfl hC (oc_assign hC (.tmp rfl) rfl rfl) ?_
    refine WL_nil ?_
    refine W_seq ?_
    refine wsr ?_
    refine wp rfl hC (oc_move hC (.tmp rfl) rfl rfl) ?_
    refine wp rfl hC (ox_cmp hC rfl (.tmp rfl) .cint (r := false) (by simp only [cmpI]; exact decide_eq_false he) rfl rfl) ?_
    refine wp rfl hC (oc_move hC (.tmp rfl) rfl rfl) ?_
    refine WL_cons hC.fn (.no (s1 := ⟨_, (72, .tu []) :: _, _⟩) rfl rfl (by decide) rfl (by decide) (fun t ht => by cases ht; exact ⟨blt_lt rfl, blt_lt rfl⟩) (fun t => setE_cons _ _ _ _) rfl rfl) ?_
    refine WL_cons hC.fn (.no (s1 := ⟨_, (73, .tu []) :: _, _⟩) rfl rfl (by decide) rfl (by decide) (fun t ht => by cases ht; exact ⟨blt_lt rfl, blt_lt rfl⟩) (fun t => setE_cons _ _ _ _) rfl rfl) ?_
    refine WL_cons hC.fn (.no (s1 := ⟨_, (74, .tu []) :: _, _⟩) rfl rfl (by decide) rfl (by decide) (fun t ht => by cases ht; exact ⟨blt_lt rfl, blt_lt rfl⟩) (fun t => setE_cons _ _ _ _) rfl rfl) ?_
    refine wp rfl hC (ox_pick hC (.tmp rfl) (.tmp rfl) .cbool (by first | exact pick_t | exact pick_f | rfl) rfl rfl) ?_
    refine WL_nil ?_
    refine W_cond rfl (by decide) (fun hc => by cases hc) (fun _ => ?_)
    refine W_skip ?_
    refine W_seq ?_
    refine wsr ?_
    refine wp rfl hC (oc_move hC (.tmp rfl) rfl rfl) ?_
    refine wp rfl hC (ox_cmp hC rfl (.tmp rfl) .cint (r := true) (by simp only [cmpI]; exact decide_eq_true he) rfl rfl) ?_
    refine WL_nil ?_
    refine W_cond rfl (by decide) (fun _ => ?_) (fun hc => by cases hc)
    refine wsr ?_
    refine wp rfl hC (ox_build (out' := recX 0 (List.replicate 16 0) 0 0 .nils) hC .nil zero_39 bld_39 rfl (by unfold recX; rfl) rfl rfl) ?_
    refine wp rfl hC (oc_move hC (.tmp rfl) rfl rfl) ?_
    refine wp rfl hC (ox_store (bk' := .blk 39 (recX 0 (List.replicate 16 0) 0 0 .nils)) hC (.tmp rfl) (.tmp rfl) rfl shp_39 (flat_recX rfl) (by rw [cells_ag, length_recX rfl]) (by show _ ≤ (recX _ _ _ _ _).length; rw [length_recX rfl]; decide) (put_rall rfl rfl) (by first | exact .here | exact .s1 rfl | exact .s2 rfl rfl | exact .s3 rfl rfl rfl | exact .s4 rfl rfl rfl rfl | exact .s5 rfl rfl rfl rfl rfl | exact .s6 rfl rfl rfl rfl rfl rfl | exact .s7 rfl rfl rfl rfl rfl rfl rfl | exact .s8 rfl rfl rfl rfl rfl rfl rfl rfl) rfl) ?_
    refine wp rfl hC (oc_assign hC (.tmp rfl) rfl rfl) ?_
    refine WL_nil ?_
    refine W_ret ?_
    exact fin0 (.cons (.cell rfl (.p rfl) shp_39 (unit_rall (by first | rfl | exact length_idP _ (Nat.le_refl _)))) (.cons (.tmp rfl) .nil)) rfl (by simp)
set_option maxRecDepth 20000 in
set_option maxHeartbeats 4000000 in
theorem dectrunc_c (s : List Int) (ns m : Nat) (hns : s.length = ns) (bs : B8 s) (hl : ns ≤ 1099511627776) (hm : ns = m + 4 + 4) (hs : vle (s.drop (m + 4)) = ((crcS (s.take (m + 4)) : Nat) : Int)) (hmg : s.take 4 = [84, 65, 80, 69]) (x0 : List Int) (C : Nat → List Int) (E : Nat → Int) (Y : Nat → List Int) (e1 e2 e3 v n kk : Int) (c1 c2 c3 : List Int) (h0 : FixS ((s.drop 4).take m) 0 1 (E 0) (C 0) x0) (hF : ∀ i, i < 16 → FixS (C i) (E i) 1 (E (i + 1)) (C (i + 1)) (Y i)) (hv : NumS (C 16) (E 16) 63 e1 c1 v) (hn : NumS c1 e1 1099511627775 e2 c2 n) (hk : NumS c2 e2 262144 e3 c3 kk) (he : e3 = 0) (j : Nat) (hj : kk = j) (hs2 : c3.length < j) : FnC Tryd.prog 22 [(1000000, .rp (I .u32 nibT))] [.vs ns (I .u8 s)] [] [] (.tu [.ag (recX 0 (List.replicate 16 0) 0 0 .nils), .i .i64 2]) := by
  have hdl : (s.drop (m + 4)).length = 4 := by rw [List.length_drop]; omega
  have hbd : B8 (s.drop (m + 4)) := fun x hx => bs x (List.mem_of_mem_drop hx)
  have hbt : B8 (s.take (m + 4)) := fun x hx => bs x (List.mem_of_mem_take hx)
  have hcr := crcS_lt hbt
  have hfx : FixS (s.drop (m + 4)) 0 4 0 [] (s.drop (m + 4)) := fix_all hdl
  have hcl : ((s.drop 4).take m).length = m := by rw [List.length_take, List.length_drop]; omega
  have bc : B8 ((s.drop 4).take m) := fun x hx => bs x (List.mem_of_mem_drop (List.mem_of_mem_take hx))
  have hx0 := h0.val bc
  have hch := chain_ok h0 hF bc
  have hi16 := length_idP Y (Nat.le_refl 16)
  have b16 := (hch 16 (Nat.le_refl _)).1
  have l16 := (hch 16 (Nat.le_refl _)).2
  have b1 := hv.b8 b16
  have l1 := hv.len
  have b2 := hn.b8 b1
  have l2 := hn.len
  have b3 := hk.b8 b2
  have l3 := hk.len
  refine FnC.introR (N0 := 0) (T := 81) (E := [(0, .vs ns (I .u8 s)), (1000000, .rp (I .u32 nibT))]) Tryd.func22 rfl (by decide) mix rfl rfl rfl (by simp) rfl ⟨(by first | exact inSL_I _ | trivial | simp), trivial⟩ (by simp) (by intro S _ _ h; simp) (fun F n0 X w ρ hC hro => ?_)
  refine wsr ?_
  refine wp rfl hC (ox_alloc (cs' := recX 0 (List.replicate 16 0) 0 0 .nils) hC zero_39 (by unfold recX; rfl) rfl rfl) ?_
  refine wp rfl hC (oc_assign hC .cint rfl rfl) ?_
  refine WL_nil ?_
  refine wsr ?_
  refine wp rfl hC (oc_move hC (.tmp rfl) rfl rfl) ?_
  refine wp rfl hC (ox_len hC (.tmp rfl) (by first | exact .row rfl | exact .vs | exact .sl rfl | exact .nils) Tryd.underlying25 rfl rfl rfl) ?_
  refine wp rfl hC (oc_bin hC rfl (.tmp rfl) .cint (r := (((m + 4) : Nat) : Int)) ((i64_sub (by omega)).trans (by omega)) rfl rfl) ?_
  refine wp rfl hC (oc_assign hC (.tmp rfl) rfl rfl) ?_
  refine WL_nil ?_
  refine W_seq ?_
  refine W_blk ?_
  refine wsr ?_
  refine wp rfl hC (oc_move hC (.tmp rfl) rfl rfl) ?_
  refine wp rfl hC (ox_cmp hC rfl (.tmp rfl) .cint (r := false) (by simp only [cmpI]; exact decide_eq_false (by omega)) rfl rfl) ?_
  refine wp rfl hC (oc_assign hC (.tmp rfl) rfl rfl) ?_
  refine WL_nil ?_
  refine W_cond rfl (by decide) (fun hc => by cases hc) (fun _ => ?_)
  refine W_seq ?_
  refine W_drawD hC ?_
  refine WD_cons (.plain rfl (oc_move hC (.tmp rfl) rfl rfl)) ?_
  refine WD_cons (.plain rfl (oc_move hC (.tmp rfl) rfl rfl)) ?_
  refine WD_cons (.plain rfl (ox_cutS (u' := .vs (s.drop (m + 4)).length (I .u8 (s.drop (m + 4)))) hC (.tmp rfl) (.yes (n := (m + 4)) (.tmp rfl) (by first | rfl | omega | (simp; omega))) .no idx_25 (by first | exact .row rfl (Nat.mul_one _) | exact .sl rfl | exact .vs (by first | omega | (simp <;> fail) | (simp; omega)) | exact .nils) (by first | omega | (simp <;> fail) | (simp; omega)) (by first | omega | (simp <;> fail) | (simp; omega)) (by rw [cut_vsI]; exact cut_rest hns) rfl rfl)) ?_
  refine WD_cons (.plain rfl (oc_callG (τ := fun k => bif Nat.beq k 0 then 1 else k) (N' := 2) hC .func (.cons (.tmp rfl) .nil) (.v1 (by first | exact .free (by first | exact inSL_I _ | simp) | exact .row rfl rfl (by first | exact inSL_I _ | simp) | exact .nils | exact .sl1 rfl (by first | exact cut_I | rfl) (by first | exact inSL_I _ | simp)) .end) (new_c _ (s.drop (m + 4)) rfl (by rw [List.length_drop]; omega)) glob_nil mr_nil (mr_cons (by first | exact ren_blkI | exact ren_rowI | exact Blk.ren_free (by simp) _ | rfl) rfl mr_nil) rfl rd_nil rfl rfl rfl rfl (by first | exact .inl rfl | exact .inr ⟨by simp, (nv_cons (by first | exact novsL_I _ | simp) nv_nil)⟩) rfl (dst_ok rfl rfl) (fun t => setE_cons _ _ _ _))) ?_
  refine WD_cons (.plain rfl (oc_callG (τ := fun k => bif Nat.beq k 0 then 1 else k) (N' := 2) hC .func (.cons (.tmp rfl) (.cons .cint .nil)) (.own (by first | rfl | simp) (.v1 (.free (by first | exact inSL_I _ | simp)) .end)) (fixr_u (s.drop (m + 4)) [] 0 0 hbd (by omega) (s.drop (m + 4)) 4 hfx) glob_nil (mr_cons (by first | exact ren_blkI | exact ren_rowI | exact Blk.ren_free (by simp) _ | rfl) rfl mr_nil) (mr_cons (by first | exact ren_blkI | exact ren_rowI | exact Blk.ren_free (by simp) _ | rfl) rfl mr_nil) rfl (rd_cons rfl rd_nil) rfl rfl rfl rfl (by first | exact .inl rfl | exact .inr ⟨by simp, (nv_cons (by first | exact novsL_I _ | simp) nv_nil)⟩) rfl (dst_ok rfl rfl) (fun t => setE_cons _ _ _ _))) ?_
  refine WD_cons (.plain rfl (oc_move hC (.tmp rfl) rfl rfl)) ?_
  refine WD_cons (.plain rfl (oc_move hC (.tmp rfl) rfl rfl)) ?_
  refine WD_cons (.plain rfl (ox_cutS (u' := .vs (s.take (m + 4)).length (I .u8 (s.take (m + 4)))) hC (.tmp rfl) .no (.yes (n := (m + 4)) (.tmp rfl) (by first | rfl | omega | (simp; omega))) idx_25 (by first | exact .row rfl (Nat.mul_one _) | exact .sl rfl | exact .vs (by first | omega | (simp <;> fail) | (simp; omega)) | exact .nils) (by first | omega | (simp <;> fail) | (simp; omega)) (by first | omega | (simp <;> fail) | (simp; omega)) (by rw [cut_vsI]; exact cut_pre hns (by omega)) rfl rfl)) ?_
  refine WD_cons (.plain rfl (ox_lit hC (.cons (.tmp rfl) .nil) Tryd.underlying78 cells_25 zero_25 rfl (by decide) rfl rfl (by first | rfl | simp) rfl rfl)) ?_
  refine WD_cons (.plain rfl (oc_call hC (.cons (.tmp rfl) .nil) (.vs (.free (inSL_I _) (.same trivial)) (.same trivial)) (sumof_c (s.take (m + 4)).length (s.take (m + 4)) rfl hbt (by rw [List.length_take]; omega)) (glob_cons rfl rfl (by first | exact inSL_I _ | simp) glob_nil) (by first | exact inSL_I _ | simp) (by first | exact .inl rfl | exact .inr (by simp)) rfl rfl)) ?_
  refine WD_cons (.plain rfl (oc_conv hC (.tmp rfl) rfl Tryd.underlying55 (r := ((crcS (s.take (m + 4)) : Nat) : Int)) (u64_conv (by omega)) rfl rfl)) ?_
  refine WD_cons (.plain rfl (ox_cmp hC rfl (.tmp rfl) (.tmp rfl) (r := false) (by rw [hs]; simp [cmpI]) rfl rfl)) ?_
  refine WD_cons (.plain rfl (oc_assign hC (.tmp rfl) rfl rfl)) ?_
  refine WD_nil (by kernel_rfl) ?_
  refine W_cond rfl (by decide) (fun hc => by cases hc) (fun _ => ?_)
  refine wsr ?_
  refine wp rfl hC (oc_move hC (.tmp rfl) rfl rfl) ?_
  refine wp rfl hC (ox_cmp hC rfl (.tmp rfl) .cint (r := false) (by simp only [cmpI]; exact decide_eq_false (by omega)) rfl rfl) ?_
  refine wp rfl hC (oc_move hC (.tmp rfl) rfl rfl) ?_
  refine WL_cons hC.fn (.yes rfl rfl (by decide) rfl (oc_move hC (.tmp rfl) rfl rfl)) ?_
  refine WL_cons hC.fn (.yes rfl rfl (by decide) rfl (ox_cutS (u' := .vs (s.take 4).length (I .u8 (s.take 4))) hC (.tmp rfl) .no (.yes (n := 4) .cint (by first | rfl | omega | (simp; omega))) idx_25 (by first | exact .row rfl (Nat.mul_one _) | exact .sl rfl | exact .vs (by first | omega | (simp <;> fail) | (simp; omega)) | exact .nils) (by first | omega | (simp <;> fail) | (simp; omega)) (by first | omega | (simp <;> fail) | (simp; omega)) (by rw [cut_vsI]; exact cut_pre hns (by omega)) rfl rfl)) ?_
  refine WL_cons hC.fn (.yes rfl rfl (by decide) rfl (ox_b2s (l := (s.take 4)) hC (.tmp rfl) (by first | exact .row rfl | exact .vs | exact .sl rfl | exact .nils) (take_allI rfl) rfl Tryd.underlying25 Tryd.underlying5 Tryd.underlying9 rfl rfl)) ?_
  refine WL_cons hC.fn (.yes rfl rfl (by decide) rfl (ox_eqs hC (.inr rfl) (.tmp rfl) .cstr (r := false) (by rw [hmg]; decide) rfl rfl)) ?_
  refine wp rfl hC (ox_pick hC (.tmp rfl) .cbool (.tmp rfl) (by first | exact pick_t | exact pick_f | rfl) rfl rfl) ?_
  refine wp rfl hC (oc_assign hC (.tmp rfl) rfl rfl) ?_
  refine WL_nil ?_
  refine W_cond rfl (by decide) (fun hc => by cases hc) (fun _ => ?_)
  refine W_skip ?_
  refine wsr ?_
  refine wp rfl hC (ox_alloc (cs' := recX 0 (List.replicate 16 0) 0 0 .nils) hC zero_39 (by unfold recX; rfl) rfl rfl) ?_
  refine WL_nil ?_
  refine wsr ?_
  refine wp rfl hC (oc_move hC (.tmp rfl) rfl rfl) ?_
  refine wp rfl hC (oc_move hC (.tmp rfl) rfl rfl) ?_
  refine wp rfl hC (ox_cutS (u' := .vs ((s.drop 4).take m).length (I .u8 ((s.drop 4).take m))) hC (.tmp rfl) (.yes (n := 4) .cint (by first | rfl | omega | (simp; omega))) (.yes (n := (m + 4)) (.tmp rfl) (by first | rfl | omega | (simp; omega))) idx_25 (by first | exact .row rfl (Nat.mul_one _) | exact .sl rfl | exact .vs (by first | omega | (simp <;> fail) | (simp; omega)) | exact .nils) (by first | omega | (simp <;> fail) | (simp; omega)) (by first | omega | (simp <;> fail) | (simp; omega)) (by rw [cut_vsI, hcl]; simp) rfl rfl) ?_
  refine wp rfl hC (oc_callG (τ := fun k => bif Nat.beq k 0 then 3 else k) (N' := 4) hC .func (.cons (.tmp rfl) .nil) (.v1 (by first | exact .free (by first | exact inSL_I _ | simp) | exact .row rfl rfl (by first | exact inSL_I _ | simp) | exact .nils | exact .sl1 rfl (by first | exact cut_I | rfl) (by first | exact inSL_I _ | simp)) .end) (new_c _ ((s.drop 4).take m) rfl (by omega)) glob_nil mr_nil (mr_cons (by first | exact ren_blkI | exact ren_rowI | exact Blk.ren_free (by simp) _ | rfl) rfl mr_nil) rfl rd_nil rfl rfl rfl rfl (by first | exact .inl rfl | exact .inr ⟨by simp, (nv_cons (by first | exact novsL_I _ | simp) nv_nil)⟩) rfl (dst_ok rfl rfl) (fun t => setE_cons _ _ _ _)) ?_
  refine wp rfl hC (oc_assign hC (.tmp rfl) rfl rfl) ?_
  refine WL_nil ?_
  refine wsr ?_
  refine wp rfl hC (oc_move hC (.tmp rfl) rfl rfl) ?_
  refine wp rfl hC (oc_callG (τ := fun k => bif Nat.beq k 0 then 3 else k) (N' := 4) hC .func (.cons (.tmp rfl) (.cons .cint .nil)) (.own (by first | rfl | simp) (.v1 (.free (by first | exact inSL_I _ | simp)) .end)) (fixr_u ((s.drop 4).take m) (C 0) 0 (E 0) bc (by omega) x0 1 h0) glob_nil (mr_cons (by first | exact ren_blkI | exact ren_rowI | exact Blk.ren_free (by simp) _ | rfl) rfl mr_nil) (mr_cons (by first | exact ren_blkI | exact ren_rowI | exact Blk.ren_free (by simp) _ | rfl) rfl mr_nil) rfl (rd_cons rfl rd_nil) rfl rfl rfl rfl (by first | exact .inl rfl | exact .inr ⟨by simp, (nv_cons (by first | exact novsL_I _ | simp) nv_nil)⟩) rfl (dst_ok rfl rfl) (fun t => setE_cons _ _ _ _)) ?_
  refine wp rfl hC (oc_conv hC (.tmp rfl) rfl Tryd.underlying3 (r := (vle x0)) (i64_conv (by omega)) rfl rfl) ?_
  refine wp rfl hC (oc_field hC (.tmp rfl) fld_39_0 (by decide) (by first | exact .p (Nat.zero_add _) | exact .p rfl | exact .rp (by decide)) rfl rfl) ?_
  refine wp rfl hC (ox_store (bk' := .blk 39 (recX (vle x0) (List.replicate 16 0) 0 0 .nils)) hC (.tmp rfl) (.tmp rfl) rfl shp_3 (by first | rfl | exact flat_agI) (by first | exact cells1 rfl | (rw [cells_ag, length_I]; omega) | rfl | (simp <;> fail) | (simp; omega)) (by show _ ≤ (recX _ _ _ _ _).length; rw [length_recX rfl]; decide) put_rk (by first | exact .here | exact .s1 rfl | exact .s2 rfl rfl | exact .s3 rfl rfl rfl | exact .s4 rfl rfl rfl rfl | exact .s5 rfl rfl rfl rfl rfl | exact .s6 rfl rfl rfl rfl rfl rfl | exact .s7 rfl rfl rfl rfl rfl rfl rfl | exact .s8 rfl rfl rfl rfl rfl rfl rfl rfl) rfl) ?_
  refine WL_nil ?_
  refine W_seq ?_
  refine wsr ?_
  refine wp rfl hC (oc_move hC .cint rfl rfl) ?_
  refine WL_nil ?_
  refine W_blk ?_
  refine W_loopW (fun (ζ : Nat) => ⟨4, [(2, .p 0 0), (3, .i .i64 0), (5, .p 2 0), (6, .p 3 0), (48, .i .i64 ζ), (1000000, .rp (I .u32 nibT))], [(0, .blk 39 (recX 0 (List.replicate 16 0) 0 0 .nils)), (2, .blk 39 (recX (vle x0) (idP Y ζ) 0 0 .nils)), (3, .blk 70 [.vs (C ζ).length (I .u8 (C ζ)), .i .i64 (E ζ)])]⟩) (fun ζ => ζ ≤ 16) (fun ζ => 16 - ζ) (0) (Nat.zero_le _) (weak (fun k => k) (.cons rfl (by first | rfl | simp) (by show _ < _; decide) (.cons rfl (by first | rfl | exact congrArg (AV.i _) (by omega) | exact congrArg (AV.i _) (by simp; omega)) trivial (.cons rfl (by first | rfl | simp) (by show _ < _; decide) (.cons rfl (by first | rfl | simp) (by show _ < _; decide) (.cons rfl rfl trivial (.cons rfl (by first | exact ren_agI | exact ren_vsI | exact ren_free _ _ (by first | exact inSL_I _ | simp)) (by first | exact inSL_I _ | simp) .nil)))))) (.cons rfl ren_rec0 rfl (by first | exact inSL_I _ | simp) (.cons rfl (ren_rec0.trans (by rw [idP_zero])) rfl (by first | exact inSL_I _ | simp) (.cons rfl (Blk.ren_free (by simp) _) rfl (by first | exact inSL_I _ | simp) .nil))) rfl rfl rfl) ?_
  intro i hR
  replace hR : i ≤ 16 := hR
  first | show W _ _ _ ⟨4, [(2, .p 0 0), (3, .i .i64 0), (5, .p 2 0), (6, .p 3 0), (48, .i .i64 i), (1000000, .rp (I .u32 nibT))], [(0, .blk 39 (recX 0 (List.replicate 16 0) 0 0 .nils)), (2, .blk 39 (recX (vle x0) (idP Y i) 0 0 .nils)), (3, .blk 70 [.vs (C i).length (I .u8 (C i)), .i .i64 (E i)])]⟩ | skip
  have hii := length_idP Y hR
  refine wsr ?_
  refine wp rfl hC (ox_cmp hC rfl (.tmp rfl) .cint rfl rfl rfl) ?_
  refine WL_nil ?_
  refine W_seq ?_
  refine W_cond rfl (by decide) (fun hc => ?_) (fun hc => ?_)
  ·
    replace hc := lss_t hc
    have hfi := hF i (by omega)
    have hbi := (hch i (by omega)).1
    have hli := (hch i (by omega)).2
    have hxi := hfi.val hbi
    refine W_skip ?_
    refine W_seq ?_
    refine W_blk ?_
    refine wsr ?_
    refine wp rfl hC (oc_move hC (.tmp rfl) rfl rfl) ?_
    refine wp rfl hC (oc_assign hC (.tmp rfl) rfl rfl) ?_
    refine WL_nil ?_
    refine W_region ?_
    refine wp rfl hC (oc_move hC (.tmp rfl) rfl rfl) ?_
    refine wp rfl hC (oc_move hC (.tmp rfl) rfl rfl) ?_
    refine wp rfl hC (oc_callG (τ := fun k => bif Nat.beq k 0 then 3 else k) (N' := 4) hC .func (.cons (.tmp rfl) (.cons .cint .nil)) (.own (by first | rfl | simp) (.v1 (.free (by first | exact inSL_I _ | simp)) .end)) (fixr_u (C i) (C (i + 1)) (E i) (E (i + 1)) hbi (by omega) (Y i) 1 hfi) glob_nil (mr_cons (by first | exact ren_blkI | exact ren_rowI | exact Blk.ren_free (by simp) _ | rfl) rfl mr_nil) (mr_cons (by first | exact ren_blkI | exact ren_rowI | exact Blk.ren_free (by simp) _ | rfl) rfl mr_nil) rfl (rd_cons rfl rd_nil) rfl rfl rfl rfl (by first | exact .inl rfl | exact .inr ⟨by simp, (nv_cons (by first | exact novsL_I _ | simp) nv_nil)⟩) rfl (dst_ok rfl rfl) (fun t => setE_cons _ _ _ _)) ?_
    refine wp rfl hC (oc_conv hC (.tmp rfl) rfl Tryd.underlying5 (r := (vle (Y i))) (u8_conv (by omega)) rfl rfl) ?_
    refine wp rfl hC (oc_field hC (.tmp rfl) fld_39_1 (by decide) (by first | exact .p (Nat.zero_add _) | exact .p rfl | exact .rp (by decide)) rfl rfl) ?_
    refine wp rfl hC (ox_indexA hC (j := i) (.tmp rfl) (.tmp rfl) idx_37 (by first | rfl | omega | (simp; omega)) (by omega) (by first | exact Nat.mul_one _ | rfl) (by first | exact .p (Nat.zero_add _) | exact .p rfl | exact .rp (by first | omega | (simp <;> fail) | (simp; omega))) rfl rfl) ?_
    refine wp rfl hC (ox_store (bk' := .blk 39 (recX (vle x0) ((idP Y i).set i (vle (Y i))) 0 0 .nils)) hC (.tmp rfl) (.tmp rfl) rfl shp_5 (by first | rfl | exact flat_agI) (by first | exact cells1 rfl | (rw [cells_ag, length_I]; omega) | rfl | (simp <;> fail) | (simp; omega)) (by show _ ≤ (recX _ _ _ _ _).length; rw [length_recX hii]; omega) (put_rid hii (by omega)) (by first | exact .here | exact .s1 rfl | exact .s2 rfl rfl | exact .s3 rfl rfl rfl | exact .s4 rfl rfl rfl rfl | exact .s5 rfl rfl rfl rfl rfl | exact .s6 rfl rfl rfl rfl rfl rfl | exact .s7 rfl rfl rfl rfl rfl rfl rfl | exact .s8 rfl rfl rfl rfl rfl rfl rfl rfl) rfl) ?_
    refine WL_nil ?_
    refine W_region ?_
    refine wp rfl hC (oc_bin hC rfl (.tmp rfl) .cint (by first | exact i64_add (by omega) | rfl) rfl rfl) ?_
    refine wp rfl hC (oc_move hC (.tmp rfl) rfl rfl) ?_
    refine WL_nil ?_
    exact ⟨(i + 1), (by omega), (weak (fun k => k) (.cons rfl (by first | rfl | simp) (by show _ < _; decide) (.cons rfl (by first | rfl | exact congrArg (AV.i _) (by omega) | exact congrArg (AV.i _) (by simp; omega)) trivial (.cons rfl (by first | rfl | simp) (by show _ < _; decide) (.cons rfl (by first | rfl | simp) (by show _ < _; decide) (.cons rfl (by first | rfl | exact congrArg (AV.i _) (by omega) | exact congrArg (AV.i _) (by simp; omega)) trivial (.cons rfl (by first | exact ren_agI | exact ren_vsI | exact ren_free _ _ (by first | exact inSL_I _ | simp)) (by first | exact inSL_I _ | simp) .nil)))))) (.cons rfl ren_rec0 rfl (by first | exact inSL_I _ | simp) (.cons rfl (ren_rec0.trans (by rw [idP_set (by omega)])) rfl (by first | exact inSL_I _ | simp) (.cons rfl (Blk.ren_free (by simp) _) rfl (by first | exact inSL_I _ | simp) .nil))) rfl rfl rfl), (by omega)⟩
  ·
    replace hc := lss_f hc
    obtain rfl : i = 16 := by omega
    refine W_exit ?_
    refine wsr ?_
    refine wp rfl hC (oc_move hC (.tmp rfl) rfl rfl) ?_
    refine wp rfl hC (oc_callG (τ := fun k => bif Nat.beq k 0 then 3 else k) (N' := 4) hC .func (.cons (.tmp rfl) (.cons .cint .nil)) (.own (by first | rfl | simp) (.v1 (.free (by first | exact inSL_I _ | simp)) .end)) (num_u (C 16) c1 (E 16) e1 b16 (by omega) 63 v hv) glob_nil (mr_cons (by first | exact ren_blkI | exact ren_rowI | exact Blk.ren_free (by simp) _ | rfl) rfl mr_nil) (mr_cons (by first | exact ren_blkI | exact ren_rowI | exact Blk.ren_free (by simp) _ | rfl) rfl mr_nil) rfl (rd_cons rfl rd_nil) rfl rfl rfl rfl (by first | exact .inl rfl | exact .inr ⟨by simp, (nv_cons (by first | exact novsL_I _ | simp) nv_nil)⟩) rfl (dst_ok rfl rfl) (fun t => setE_cons _ _ _ _)) ?_
    refine wp rfl hC (oc_field hC (.tmp rfl) fld_39_2 (by decide) (by first | exact .p (Nat.zero_add _) | exact .p rfl | exact .rp (by decide)) rfl rfl) ?_
    refine wp rfl hC (ox_store (bk' := .blk 39 (recX (vle x0) (idP Y 16) v 0 .nils)) hC (.tmp rfl) (.tmp rfl) rfl shp_3 (by first | rfl | exact flat_agI) (by first | exact cells1 rfl | (rw [cells_ag, length_I]; omega) | rfl | (simp <;> fail) | (simp; omega)) (by show _ ≤ (recX _ _ _ _ _).length; rw [length_recX hi16]; decide) (put_rv hi16) (by first | exact .here | exact .s1 rfl | exact .s2 rfl rfl | exact .s3 rfl rfl rfl | exact .s4 rfl rfl rfl rfl | exact .s5 rfl rfl rfl rfl rfl | exact .s6 rfl rfl rfl rfl rfl rfl | exact .s7 rfl rfl rfl rfl rfl rfl rfl | exact .s8 rfl rfl rfl rfl rfl rfl rfl rfl) rfl) ?_
    refine WL_nil ?_
    refine wsr ?_
    refine wp rfl hC (oc_move hC (.tmp rfl) rfl rfl) ?_
    refine wp rfl hC (oc_callG (τ := fun k => bif Nat.beq k 0 then 3 else k) (N' := 4) hC .func (.cons (.tmp rfl) (.cons .cint .nil)) (.own (by first | rfl | simp) (.v1 (.free (by first | exact inSL_I _ | simp)) .end)) (num_u c1 c2 e1 e2 b1 (by omega) 1099511627775 n hn) glob_nil (mr_cons (by first | exact ren_blkI | exact ren_rowI | exact Blk.ren_free (by simp) _ | rfl) rfl mr_nil) (mr_cons (by first | exact ren_blkI | exact ren_rowI | exact Blk.ren_free (by simp) _ | rfl) rfl mr_nil) rfl (rd_cons rfl rd_nil) rfl rfl rfl rfl (by first | exact .inl rfl | exact .inr ⟨by simp, (nv_cons (by first | exact novsL_I _ | simp) nv_nil)⟩) rfl (dst_ok rfl rfl) (fun t => setE_cons _ _ _ _)) ?_
    refine wp rfl hC (oc_field hC (.tmp rfl) fld_39_3 (by decide) (by first | exact .p (Nat.zero_add _) | exact .p rfl | exact .rp (by decide)) rfl rfl) ?_
    refine wp rfl hC (ox_store (bk' := .blk 39 (recX (vle x0) (idP Y 16) v n .nils)) hC (.tmp rfl) (.tmp rfl) rfl shp_3 (by first | rfl | exact flat_agI) (by first | exact cells1 rfl | (rw [cells_ag, length_I]; omega) | rfl | (simp <;> fail) | (simp; omega)) (by show _ ≤ (recX _ _ _ _ _).length; rw [length_recX hi16]; decide) (put_rn hi16) (by first | exact .here | exact .s1 rfl | exact .s2 rfl rfl | exact .s3 rfl rfl rfl | exact .s4 rfl rfl rfl rfl | exact .s5 rfl rfl rfl rfl rfl | exact .s6 rfl rfl rfl rfl rfl rfl | exact .s7 rfl rfl rfl rfl rfl rfl rfl | exact .s8 rfl rfl rfl rfl rfl rfl rfl rfl) rfl) ?_
    refine WL_nil ?_
    refine wsr ?_
    refine wp rfl hC (oc_move hC (.tmp rfl) rfl rfl) ?_
    refine wp rfl hC (oc_callG (τ := fun k => bif Nat.beq k 0 then 3 else k) (N' := 4) hC .func (.cons (.tmp rfl) (.cons .cint .nil)) (.own (by first | rfl | simp) (.v1 (.free (by first | exact inSL_I _ | simp)) .end)) (bytesushort_c c2 c3 e2 e3 b2 (by omega) 262144 kk hk he j hj hs2) glob_nil (mr_cons (by first | exact ren_blkI | exact ren_rowI | exact Blk.ren_free (by simp) _ | rfl) rfl mr_nil) (mr_cons (by first | exact ren_blkI | exact ren_rowI | exact Blk.ren_free (by simp) _ | rfl) rfl mr_nil) rfl (rd_cons rfl rd_nil) rfl rfl rfl rfl (by first | exact .inl rfl | exact .inr ⟨by simp, (nv_cons (by first | exact novsL_I _ | simp) nv_nil)⟩) rfl (dst_ok rfl rfl) (fun t => setE_cons _ _ _ _)) ?_
    refine wp rfl hC (oc_field hC (.tmp rfl) fld_39_4 (by decide) (by first | exact .p (Nat.zero_add _) | exact .p rfl | exact .rp (by decide)) rfl rfl) ?_
    refine wp rfl hC (ox_store (bk' := .blk 39 (recX (vle x0) (idP Y 16) v n .nils)) hC (.tmp rfl) (.tmp rfl) rfl shp_25 (by first | rfl | exact flat_agI) rfl (by show _ ≤ (recX _ _ _ _ _).length; rw [length_recX hi16]; decide) (put_rz hi16) (by first | exact .here | exact .s1 rfl | exact .s2 rfl rfl | exact .s3 rfl rfl rfl | exact .s4 rfl rfl rfl rfl | exact .s5 rfl rfl rfl rfl rfl | exact .s6 rfl rfl rfl rfl rfl rfl | exact .s7 rfl rfl rfl rfl rfl rfl rfl | exact .s8 rfl rfl rfl rfl rfl rfl rfl rfl) rfl) ?_
    refine WL_nil ?_
    refine wsr ?_
    refine wp rfl hC (oc_move hC (.tmp rfl) rfl rfl) ?_
    refine wp rfl hC (oc_callG (τ := fun k => bif Nat.beq k 0 then 3 else k) (N' := 4) hC .func (.cons (.tmp rfl) .nil) (.own (by first | rfl | simp) .end) (end_c c3.length c3 2 rfl b3 (by omega) 2 (.inr (.inr ⟨by decide, rfl⟩))) glob_nil (mr_cons (by first | exact ren_blkI | exact ren_rowI | exact Blk.ren_free (by simp) _ | rfl) rfl mr_nil) (mr_cons (by first | exact ren_blkI | exact ren_rowI | exact Blk.ren_free (by simp) _ | rfl) rfl mr_nil) rfl (rd_cons rfl rd_nil) rfl rfl rfl rfl (by first | exact .inl rfl | exact .inr ⟨by simp, (nv_cons (by first | exact novsL_I _ | simp) nv_nil)⟩) rfl (dst_ok rfl rfl) (fun t => setE_cons _ _ _ _)) ?_
    refine wp rfl hC (oc_assign hC (.tmp rfl) rfl rfl) ?_
    refine WL_nil ?_
    refine W_seq ?_
    refine wsr ?_
    refine wp rfl hC (oc_move hC (.tmp rfl) rfl rfl) ?_
    refine wp rfl hC (ox_cmp hC rfl (.tmp rfl) .cint (r := false) rfl rfl rfl) ?_
    refine wp rfl hC (oc_move hC (.tmp rfl) rfl rfl) ?_
    refine WL_cons hC.fn (.no (s1 := ⟨_, (72, .tu []) :: _, _⟩) rfl rfl (by decide) rfl (by decide) (fun t ht => by cases ht; exact ⟨blt_lt rfl, blt_lt rfl⟩) (fun t => setE_cons _ _ _ _) rfl rfl) ?_
    refine WL_cons hC.fn (.no (s1 := ⟨_, (73, .tu []) :: _, _⟩) rfl rfl (by decide) rfl (by decide) (fun t ht => by cases ht; exact ⟨blt_lt rfl, blt_lt rfl⟩) (fun t => setE_cons _ _ _ _) rfl rfl) ?_
    refine WL_cons hC.fn (.no (s1 := ⟨_, (74, .tu []) :: _, _⟩) rfl rfl (by decide) rfl (by decide) (fun t ht => by cases ht; exact ⟨blt_lt rfl, blt_lt rfl⟩) (fun t => setE_cons _ _ _ _) rfl rfl) ?_
    refine wp rfl hC (ox_pick hC (.tmp rfl) (.tmp rfl) .cbool (by first | exact pick_t | exact pick_f | rfl) rfl rfl) ?_
    refine WL_nil ?_
    refine W_cond rfl (by decide) (fun hc => by cases hc) (fun _ => ?_)
    refine W_skip ?_
    refine W_seq ?_
    refine wsr ?_
    refine wp rfl hC (oc_move hC (.tmp rfl) rfl rfl) ?_
    refine wp rfl hC (ox_cmp hC rfl (.tmp rfl) .cint (r := true) rfl rfl rfl) ?_
    refine WL_nil ?_
    refine W_cond rfl (by decide) (fun _ => ?_) (fun hc => by cases hc)
    refine wsr ?_
    refine wp rfl hC (ox_build (out' := recX 0 (List.replicate 16 0) 0 0 .nils) hC .nil zero_39 bld_39 rfl (by unfold recX; rfl) rfl rfl) ?_
    refine wp rfl hC (oc_move hC (.tmp rfl) rfl rfl) ?_
    refine wp rfl hC (ox_store (bk' := .blk 39 (recX 0 (List.replicate 16 0) 0 0 .nils)) hC (.tmp rfl) (.tmp rfl) rfl shp_39 (flat_recX rfl) (by rw [cells_ag, length_recX rfl]) (by show _ ≤ (recX _ _ _ _ _).length; rw [length_recX rfl]; decide) (put_rall rfl rfl) (by first | exact .here | exact .s1 rfl | exact .s2 rfl rfl | exact .s3 rfl rfl rfl | exact .s4 rfl rfl rfl rfl | exact .s5 rfl rfl rfl rfl rfl | exact .s6 rfl rfl rfl rfl rfl rfl | exact .s7 rfl rfl rfl rfl rfl rfl rfl | exact .s8 rfl rfl rfl rfl rfl rfl rfl rfl) rfl) ?_
    refine wp rfl hC (oc_assign hC (.tmp rfl) rfl rfl) ?_
    refine WL_nil ?_
    refine W_ret ?_
    exact fin0 (.cons (.cell rfl (.p rfl) shp_39 (unit_rall (by first | rfl | exact length_idP _ (Nat.le_refl _)))) (.cons (.tmp rfl) .nil)) rfl (by simp)
set_option maxRecDepth 20000 in
set_option maxHeartbeats 4000000 in
theorem decmore_c (s : List Int) (ns m : Nat) (hns : s.length = ns) (bs : B8 s) (hl : ns ≤ 1099511627776) (hm : ns = m + 4 + 4) (hs : vle (s.drop (m + 4)) = ((crcS (s.take (m + 4)) : Nat) : Int)) (hmg : s.take 4 = [84, 65, 80, 69]) (x0 : List Int) (C : Nat → List Int) (E : Nat → Int) (Y : Nat → List Int) (e1 e2 e3 v n kk : Int) (c1 c2 c3 : List Int) (h0 : FixS ((s.drop 4).take m) 0 1 (E 0) (C 0) x0) (hF : ∀ i, i < 16 → FixS (C i) (E i) 1 (E (i + 1)) (C (i + 1)) (Y i)) (hv : NumS (C 16) (E 16) 63 e1 c1 v) (hn : NumS c1 e1 1099511627775 e2 c2 n) (hk : NumS c2 e2 262144 e3 c3 kk) (he : e3 = 0) (j : Nat) (hj : kk = j) (hs2 : j < c3.length) : FnC Tryd.prog 22 [(1000000, .rp (I .u32 nibT))] [.vs ns (I .u8 s)] [] [] (.tu [.ag (recX 0 (List.replicate 16 0) 0 0 .nils), .i .i64 5]) := by
  have hdl : (s.drop (m + 4)).length = 4 := by rw [List.length_drop]; omega
  have hbd : B8 (s.drop (m + 4)) := fun x hx => bs x (List.mem_of_mem_drop hx)
  have hbt : B8 (s.take (m + 4)) := fun x hx => bs x (List.mem_of_mem_take hx)
  have hcr := crcS_lt hbt
  have hfx : FixS (s.drop (m + 4)) 0 4 0 [] (s.drop (m + 4)) := fix_all hdl
  have hcl : ((s.drop 4).take m).length = m := by rw [List.length_take, List.length_drop]; omega
  have bc : B8 ((s.drop 4).take m) := fun x hx => bs x (List.mem_of_mem_drop (List.mem_of_mem_take hx))
  have hx0 := h0.val bc
  have hch := chain_ok h0 hF bc
  have hi16 := length_idP Y (Nat.le_refl 16)
  have b16 := (hch 16 (Nat.le_refl _)).1
  have l16 := (hch 16 (Nat.le_refl _)).2
  have b1 := hv.b8 b16
  have l1 := hv.len
  have b2 := hn.b8 b1
  have l2 := hn.len
  have b3 := hk.b8 b2
  have l3 := hk.len
  refine FnC.introR (N0 := 0) (T := 81) (E := [(0, .vs ns (I .u8 s)), (1000000, .rp (I .u32 nibT))]) Tryd.func22 rfl (by decide) mix rfl rfl rfl (by simp) rfl ⟨(by first | exact inSL_I _ | trivial | simp), trivial⟩ (by simp) (by intro S _ _ h; simp) (fun F n0 X w ρ hC hro => ?_)
  refine wsr ?_
  refine wp rfl hC (ox_alloc (cs' := recX 0 (List.replicate 16 0) 0 0 .nils) hC zero_39 (by unfold recX; rfl) rfl rfl) ?_
  refine wp rfl hC (oc_assign hC .cint rfl rfl) ?_
  refine WL_nil ?_
  refine wsr ?_
  refine wp rfl hC (oc_move hC (.tmp rfl) rfl rfl) ?_
  refine wp rfl hC (ox_len hC (.tmp rfl) (by first | exact .row rfl | exact .vs | exact .sl rfl | exact .nils) Tryd.underlying25 rfl rfl rfl) ?_
  refine wp rfl hC (oc_bin hC rfl (.tmp rfl) .cint (r := (((m + 4) : Nat) : Int)) ((i64_sub (by omega)).trans (by omega)) rfl rfl) ?_
  refine wp rfl hC (oc_assign hC (.tmp rfl) rfl rfl) ?_
  refine WL_nil ?_
  refine W_seq ?_
  refine W_blk ?_
  refine wsr ?_
  refine wp rfl hC (oc_move hC (.tmp rfl) rfl rfl) ?_
  refine wp rfl hC (ox_cmp hC rfl (.tmp rfl) .cint (r := false) (by simp only [cmpI]; exact decide_eq_false (by omega)) rfl rfl) ?_
  refine wp rfl hC (oc_assign hC (.tmp rfl) rfl rfl) ?_
  refine WL_nil ?_
  refine W_cond rfl (by decide) (fun hc => by cases hc) (fun _ => ?_)
  refine W_seq ?_
  refine W_drawD hC ?_
  refine WD_cons (.plain rfl (oc_move hC (.tmp rfl) rfl rfl)) ?_
  refine WD_cons (.plain rfl (oc_move hC (.tmp rfl) rfl rfl)) ?_
  refine WD_cons (.plain rfl (ox_cutS (u' := .vs (s.drop (m + 4)).length (I .u8 (s.drop (m + 4)))) hC (.tmp rfl) (.yes (n := (m + 4)) (.tmp rfl) (by first | rfl | omega | (simp; omega))) .no idx_25 (by first | exact .row rfl (Nat.mul_one _) | exact .sl rfl | exact .vs (by first | omega | (simp <;> fail) | (simp; omega)) | exact .nils) (by first | omega | (simp <;> fail) | (simp; omega)) (by first | omega | (simp <;> fail) | (simp; omega)) (by rw [cut_vsI]; exact cut_rest hns) rfl rfl)) ?_
  refine WD_cons (.plain rfl (oc_callG (τ := fun k => bif Nat.beq k 0 then 1 else k) (N' := 2) hC .func (.cons (.tmp rfl) .nil) (.v1 (by first | exact .free (by first | exact inSL_I _ | simp) | exact .row rfl rfl (by first | exact inSL_I _ | simp) | exact .nils | exact .sl1 rfl (by first | exact cut_I | rfl) (by first | exact inSL_I _ | simp)) .end) (new_c _ (s.drop (m + 4)) rfl (by rw [List.length_drop]; omega)) glob_nil mr_nil (mr_cons (by first | exact ren_blkI | exact ren_rowI | exact Blk.ren_free (by simp) _ | rfl) rfl mr_nil) rfl rd_nil rfl rfl rfl rfl (by first | exact .inl rfl | exact .inr ⟨by simp, (nv_cons (by first | exact novsL_I _ | simp) nv_nil)⟩) rfl (dst_ok rfl rfl) (fun t => setE_cons _ _ _ _))) ?_
  refine WD_cons (.plain rfl (oc_callG (τ := fun k => bif Nat.beq k 0 then 1 else k) (N' := 2) hC .func (.cons (.tmp rfl) (.cons .cint .nil)) (.own (by first | rfl | simp) (.v1 (.free (by first | exact inSL_I _ | simp)) .end)) (fixr_u (s.drop (m + 4)) [] 0 0 hbd (by omega) (s.drop (m + 4)) 4 hfx) glob_nil (mr_cons (by first | exact ren_blkI | exact ren_rowI | exact Blk.ren_free (by simp) _ | rfl) rfl mr_nil) (mr_cons (by first | exact ren_blkI | exact ren_rowI | exact Blk.ren_free (by simp) _ | rfl) rfl mr_nil) rfl (rd_cons rfl rd_nil) rfl rfl rfl rfl (by first | exact .inl rfl | exact .inr ⟨by simp, (nv_cons (by first | exact novsL_I _ | simp) nv_nil)⟩) rfl (dst_ok rfl rfl) (fun t => setE_cons _ _ _ _))) ?_
  refine WD_cons (.plain rfl (oc_move hC (.tmp rfl) rfl rfl)) ?_
  refine WD_cons (.plain rfl (oc_move hC (.tmp rfl) rfl rfl)) ?_
  refine WD_cons (.plain rfl (ox_cutS (u' := .vs (s.take (m + 4)).length (I .u8 (s.take (m + 4)))) hC (.tmp rfl) .no (.yes (n := (m + 4)) (.tmp rfl) (by first | rfl | omega | (simp; omega))) idx_25 (by first | exact .row rfl (Nat.mul_one _) | exact .sl rfl | exact .vs (by first | omega | (simp <;> fail) | (simp; omega)) | exact .nils) (by first | omega | (simp <;> fail) | (simp; omega)) (by first | omega | (simp <;> fail) | (simp; omega)) (by rw [cut_vsI]; exact cut_pre hns (by omega)) rfl rfl)) ?_
  refine WD_cons (.plain rfl (ox_lit hC (.cons (.tmp rfl) .nil) Tryd.underlying78 cells_25 zero_25 rfl (by decide) rfl rfl (by first | rfl | simp) rfl rfl)) ?_
  refine WD_cons (.plain rfl (oc_call hC (.cons (.tmp rfl) .nil) (.vs (.free (inSL_I _) (.same trivial)) (.same trivial)) (sumof_c (s.take (m + 4)).length (s.take (m + 4)) rfl hbt (by rw [List.length_take]; omega)) (glob_cons rfl rfl (by first | exact inSL_I _ | simp) glob_nil) (by first | exact inSL_I _ | simp) (by first | exact .inl rfl | exact .inr (by simp)) rfl rfl)) ?_
  refine WD_cons (.plain rfl (oc_conv hC (.tmp rfl) rfl Tryd.underlying55 (r := ((crcS (s.take (m + 4)) : Nat) : Int)) (u64_conv (by omega)) rfl rfl)) ?_
  refine WD_cons (.plain rfl (ox_cmp hC rfl (.tmp rfl) (.tmp rfl) (r := false) (by rw [hs]; simp [cmpI]) rfl rfl)) ?_
  refine WD_cons (.plain rfl (oc_assign hC (.tmp rfl) rfl rfl)) ?_
  refine WD_nil (by kernel_rfl) ?_
  refine W_cond rfl (by decide) (fun hc => by cases hc) (fun _ => ?_)
  refine wsr ?_
  refine wp rfl hC (oc_move hC (.tmp rfl) rfl rfl) ?_
  refine wp rfl hC (ox_cmp hC rfl (.tmp rfl) .cint (r := false) (by simp only [cmpI]; exact decide_eq_false (by omega)) rfl rfl) ?_
  refine wp rfl hC (oc_move hC (.tmp rfl) rfl rfl) ?_
  refine WL_cons hC.fn (.yes rfl rfl (by decide) rfl (oc_move hC (.tmp rfl) rfl rfl)) ?_
  refine WL_cons hC.fn (.yes rfl rfl (by decide) rfl (ox_cutS (u' := .vs (s.take 4).length (I .u8 (s.take 4))) hC (.tmp rfl) .no (.yes (n := 4) .cint (by first | rfl | omega | (simp; omega))) idx_25 (by first | exact .row rfl (Nat.mul_one _) | exact .sl rfl | exact .vs (by first | omega | (simp <;> fail) | (simp; omega)) | exact .nils) (by first | omega | (simp <;> fail) | (simp; omega)) (by first | omega | (simp <;> fail) | (simp; omega)) (by rw [cut_vsI]; exact cut_pre hns (by omega)) rfl rfl)) ?_
  refine WL_cons hC.fn (.yes rfl rfl (by decide) rfl (ox_b2s (l := (s.take 4)) hC (.tmp rfl) (by first | exact .row rfl | exact .vs | exact .sl rfl | exact .nils) (take_allI rfl) rfl Tryd.underlying25 Tryd.underlying5 Tryd.underlying9 rfl rfl)) ?_
  refine WL_cons hC.fn (.yes rfl rfl (by decide) rfl (ox_eqs hC (.inr rfl) (.tmp rfl) .cstr (r := false) (by rw [hmg]; decide) rfl rfl)) ?_
  refine wp rfl hC (ox_pick hC (.tmp rfl) .cbool (.tmp rfl) (by first | exact pick_t | exact pick_f | rfl) rfl rfl) ?_
  refine wp rfl hC (oc_assign hC (.tmp rfl) rfl rfl) ?_
  refine WL_nil ?_
  refine W_cond rfl (by decide) (fun hc => by cases hc) (fun _ => ?_)
  refine W_skip ?_
  refine wsr ?_
  refine wp rfl hC (ox_alloc (cs' := recX 0 (List.replicate 16 0) 0 0 .nils) hC zero_39 (by unfold recX; rfl) rfl rfl) ?_
  refine WL_nil ?_
  refine wsr ?_
  refine wp rfl hC (oc_move hC (.tmp rfl) rfl rfl) ?_
  refine wp rfl hC (oc_move hC (.tmp rfl) rfl rfl) ?_
  refine wp rfl hC (ox_cutS (u' := .vs ((s.drop 4).take m).length (I .u8 ((s.drop 4).take m))) hC (.tmp rfl) (.yes (n := 4) .cint (by first | rfl | omega | (simp; omega))) (.yes (n := (m + 4)) (.tmp rfl) (by first | rfl | omega | (simp; omega))) idx_25 (by first | exact .row rfl (Nat.mul_one _) | exact .sl rfl | exact .vs (by first | omega | (simp <;> fail) | (simp; omega)) | exact .nils) (by first | omega | (simp <;> fail) | (simp; omega)) (by first | omega | (simp <;> fail) | (simp; omega)) (by rw [cut_vsI, hcl]; simp) rfl rfl) ?_
  refine wp rfl hC (oc_callG (τ := fun k => bif Nat.beq k 0 then 3 else k) (N' := 4) hC .func (.cons (.tmp rfl) .nil) (.v1 (by first | exact .free (by first | exact inSL_I _ | simp) | exact .row rfl rfl (by first | exact inSL_I _ | simp) | exact .nils | exact .sl1 rfl (by first | exact cut_I | rfl) (by first | exact inSL_I _ | simp)) .end) (new_c _ ((s.drop 4).take m) rfl (by omega)) glob_nil mr_nil (mr_cons (by first | exact ren_blkI | exact ren_rowI | exact Blk.ren_free (by simp) _ | rfl) rfl mr_nil) rfl rd_nil rfl rfl rfl rfl (by first | exact .inl rfl | exact .inr ⟨by simp, (nv_cons (by first | exact novsL_I _ | simp) nv_nil)⟩) rfl (dst_ok rfl rfl) (fun t => setE_cons _ _ _ _)) ?_
  refine wp rfl hC (oc_assign hC (.tmp rfl) rfl rfl) ?_
  refine WL_nil ?_
  refine wsr ?_
  refine wp rfl hC (oc_move hC (.tmp rfl) rfl rfl) ?_
  refine wp rfl hC (oc_callG (τ := fun k => bif Nat.beq k 0 then 3 else k) (N' := 4) hC .func (.cons (.tmp rfl) (.cons .cint .nil)) (.own (by first | rfl | simp) (.v1 (.free (by first | exact inSL_I _ | simp)) .end)) (fixr_u ((s.drop 4).take m) (C 0) 0 (E 0) bc (by omega) x0 1 h0) glob_nil (mr_cons (by first | exact ren_blkI | exact ren_rowI | exact Blk.ren_free (by simp) _ | rfl) rfl mr_nil) (mr_cons (by first | exact ren_blkI | exact ren_rowI | exact Blk.ren_free (by simp) _ | rfl) rfl mr_nil) rfl (rd_cons rfl rd_nil) rfl rfl rfl rfl (by first | exact .inl rfl | exact .inr ⟨by simp, (nv_cons (by first | exact novsL_I _ | simp) nv_nil)⟩) rfl (dst_ok rfl rfl) (fun t => setE_cons _ _ _ _)) ?_
  refine wp rfl hC (oc_conv hC (.tmp rfl) rfl Tryd.underlying3 (r := (vle x0)) (i64_conv (by omega)) rfl rfl) ?_
  refine wp rfl hC (oc_field hC (.tmp rfl) fld_39_0 (by decide) (by first | exact .p (Nat.zero_add _) | exact .p rfl | exact .rp (by decide)) rfl rfl) ?_
  refine wp rfl hC (ox_store (bk' := .blk 39 (recX (vle x0) (List.replicate 16 0) 0 0 .nils)) hC (.tmp rfl) (.tmp rfl) rfl shp_3 (by first | rfl | exact flat_agI) (by first | exact cells1 rfl | (rw [cells_ag, length_I]; omega) | rfl | (simp <;> fail) | (simp; omega)) (by show _ ≤ (recX _ _ _ _ _).length; rw [length_recX rfl]; decide) put_rk (by first | exact .here | exact .s1 rfl | exact .s2 rfl rfl | exact .s3 rfl rfl rfl | exact .s4 rfl rfl rfl rfl | exact .s5 rfl rfl rfl rfl rfl | exact .s6 rfl rfl rfl rfl rfl rfl | exact .s7 rfl rfl rfl rfl rfl rfl rfl | exact .s8 rfl rfl rfl rfl rfl rfl rfl rfl) rfl) ?_
  refine WL_nil ?_
  refine W_seq ?_
  refine wsr ?_
  refine wp rfl hC (oc_move hC .cint rfl rfl) ?_
  refine WL_nil ?_
  refine W_blk ?_
  refine W_loopW (fun (ζ : Nat) => ⟨4, [(2, .p 0 0), (3, .i .i64 0), (5, .p 2 0), (6, .p 3 0), (48, .i .i64 ζ), (1000000, .rp (I .u32 nibT))], [(0, .blk 39 (recX 0 (List.replicate 16 0) 0 0 .nils)), (2, .blk 39 (recX (vle x0) (idP Y ζ) 0 0 .nils)), (3, .blk 70 [.vs (C ζ).length (I .u8 (C ζ)), .i .i64 (E ζ)])]⟩) (fun ζ => ζ ≤ 16) (fun ζ => 16 - ζ) (0) (Nat.zero_le _) (weak (fun k => k) (.cons rfl (by first | rfl | simp) (by show _ < _; decide) (.cons rfl (by first | rfl | exact congrArg (AV.i _) (by omega) | exact congrArg (AV.i _) (by simp; omega)) trivial (.cons rfl (by first | rfl | simp) (by show _ < _; decide) (.cons rfl (by first | rfl | simp) (by show _ < _; decide) (.cons rfl rfl trivial (.cons rfl (by first | exact ren_agI | exact ren_vsI | exact ren_free _ _ (by first | exact inSL_I _ | simp)) (by first | exact inSL_I _ | simp) .nil)))))) (.cons rfl ren_rec0 rfl (by first | exact inSL_I _ | simp) (.cons rfl (ren_rec0.trans (by rw [idP_zero])) rfl (by first | exact inSL_I _ | simp) (.cons rfl (Blk.ren_free (by simp) _) rfl (by first | exact inSL_I _ | simp) .nil))) rfl rfl rfl) ?_
  intro i hR
  replace hR : i ≤ 16 := hR
  first | show W _ _ _ ⟨4, [(2, .p 0 0), (3, .i .i64 0), (5, .p 2 0), (6, .p 3 0), (48, .i .i64 i), (1000000, .rp (I .u32 nibT))], [(0, .blk 39 (recX 0 (List.replicate 16 0) 0 0 .nils)), (2, .blk 39 (recX (vle x0) (idP Y i) 0 0 .nils)), (3, .blk 70 [.vs (C i).length (I .u8 (C i)), .i .i64 (E i)])]⟩ | skip
  have hii := length_idP Y hR
  refine wsr ?_
  refine wp rfl hC (ox_cmp hC rfl (.tmp rfl) .cint rfl rfl rfl) ?_
  refine WL_nil ?_
  refine W_seq ?_
  refine W_cond rfl (by decide) (fun hc => ?_) (fun hc => ?_)
  ·
    replace hc := lss_t hc
    have hfi := hF i (by omega)
    have hbi := (hch i (by omega)).1
    have hli := (hch i (by omega)).2
    have hxi := hfi.val hbi
    refine W_skip ?_
    refine W_seq ?_
    refine W_blk ?_
    refine wsr ?_
    refine wp rfl hC (oc_move hC (.tmp rfl) rfl rfl) ?_
    refine wp rfl hC (oc_assign hC (.tmp rfl) rfl rfl) ?_
    refine WL_nil ?_
    refine W_region ?_
    refine wp rfl hC (oc_move hC (.tmp rfl) rfl rfl) ?_
    refine wp rfl hC (oc_move hC (.tmp rfl) rfl rfl) ?_
    refine wp rfl hC (oc_callG (τ := fun k => bif Nat.beq k 0 then 3 else k) (N' := 4) hC .func (.cons (.tmp rfl) (.cons .cint .nil)) (.own (by first | rfl | simp) (.v1 (.free (by first | exact inSL_I _ | simp)) .end)) (fixr_u (C i) (C (i + 1)) (E i) (E (i + 1)) hbi (by omega) (Y i) 1 hfi) glob_nil (mr_cons (by first | exact ren_blkI | exact ren_rowI | exact Blk.ren_free (by simp) _ | rfl) rfl mr_nil) (mr_cons (by first | exact ren_blkI | exact ren_rowI | exact Blk.ren_free (by simp) _ | rfl) rfl mr_nil) rfl (rd_cons rfl rd_nil) rfl rfl rfl rfl (by first | exact .inl rfl | exact .inr ⟨by simp, (nv_cons (by first | exact novsL_I _ | simp) nv_nil)⟩) rfl (dst_ok rfl rfl) (fun t => setE_cons _ _ _ _)) ?_
    refine wp rfl hC (oc_conv hC (.tmp rfl) rfl Tryd.underlying5 (r := (vle (Y i))) (u8_conv (by omega)) rfl rfl) ?_
    refine wp rfl hC (oc_field hC (.tmp rfl) fld_39_1 (by decide) (by first | exact .p (Nat.zero_add _) | exact .p rfl | exact .rp (by decide)) rfl rfl) ?_
    refine wp rfl hC (ox_indexA hC (j := i) (.tmp rfl) (.tmp rfl) idx_37 (by first | rfl | omega | (simp; omega)) (by omega) (by first | exact Nat.mul_one _ | rfl) (by first | exact .p (Nat.zero_add _) | exact .p rfl | exact .rp (by first | omega | (simp <;> fail) | (simp; omega))) rfl rfl) ?_
    refine wp rfl hC (ox_store (bk' := .blk 39 (recX (vle x0) ((idP Y i).set i (vle (Y i))) 0 0 .nils)) hC (.tmp rfl) (.tmp rfl) rfl shp_5 (by first | rfl | exact flat_agI) (by first | exact cells1 rfl | (rw [cells_ag, length_I]; omega) | rfl | (simp <;> fail) | (simp; omega)) (by show _ ≤ (recX _ _ _ _ _).length; rw [length_recX hii]; omega) (put_rid hii (by omega)) (by first | exact .here | exact .s1 rfl | exact .s2 rfl rfl | exact .s3 rfl rfl rfl | exact .s4 rfl rfl rfl rfl | exact .s5 rfl rfl rfl rfl rfl | exact .s6 rfl rfl rfl rfl rfl rfl | exact .s7 rfl rfl rfl rfl rfl rfl rfl | exact .s8 rfl rfl rfl rfl rfl rfl rfl rfl) rfl) ?_
    refine WL_nil ?_
    refine W_region ?_
    refine wp rfl hC (oc_bin hC rfl (.tmp rfl) .cint (by first | exact i64_add (by omega) | rfl) rfl rfl) ?_
    refine wp rfl hC (oc_move hC (.tmp rfl) rfl rfl) ?_
    refine WL_nil ?_
    exact ⟨(i + 1), (by omega), (weak (fun k => k) (.cons rfl (by first | rfl | simp) (by show _ < _; decide) (.cons rfl (by first | rfl | exact congrArg (AV.i _) (by omega) | exact congrArg (AV.i _) (by simp; omega)) trivial (.cons rfl (by first | rfl | simp) (by show _ < _; decide) (.cons rfl (by first | rfl | simp) (by show _ < _; decide) (.cons rfl (by first | rfl | exact congrArg (AV.i _) (by omega) | exact congrArg (AV.i _) (by simp; omega)) trivial (.cons rfl (by first | exact ren_agI | exact ren_vsI | exact ren_free _ _ (by first | exact inSL_I _ | simp)) (by first | exact inSL_I _ | simp) .nil)))))) (.cons rfl ren_rec0 rfl (by first | exact inSL_I _ | simp) (.cons rfl (ren_rec0.trans (by rw [idP_set (by omega)])) rfl (by first | exact inSL_I _ | simp) (.cons rfl (Blk.ren_free (by simp) _) rfl (by first | exact inSL_I _ | simp) .nil))) rfl rfl rfl), (by omega)⟩
  ·
    replace hc := lss_f hc
    obtain rfl : i = 16 := by omega
    refine W_exit ?_
    refine wsr ?_
    refine wp rfl hC (oc_move hC (.tmp rfl) rfl rfl) ?_
    refine wp rfl hC (oc_callG (τ := fun k => bif Nat.beq k 0 then 3 else k) (N' := 4) hC .func (.cons (.tmp rfl) (.cons .cint .nil)) (.own (by first | rfl | simp) (.v1 (.free (by first | exact inSL_I _ | simp)) .end)) (num_u (C 16) c1 (E 16) e1 b16 (by omega) 63 v hv) glob_nil (mr_cons (by first | exact ren_blkI | exact ren_rowI | exact Blk.ren_free (by simp) _ | rfl) rfl mr_nil) (mr_cons (by first | exact ren_blkI | exact ren_rowI | exact Blk.ren_free (by simp) _ | rfl) rfl mr_nil) rfl (rd_cons rfl rd_nil) rfl rfl rfl rfl (by first | exact .inl rfl | exact .inr ⟨by simp, (nv_cons (by first | exact novsL_I _ | simp) nv_nil)⟩) rfl (dst_ok rfl rfl) (fun t => setE_cons _ _ _ _)) ?_
    refine wp rfl hC (oc_field hC (.tmp rfl) fld_39_2 (by decide) (by first | exact .p (Nat.zero_add _) | exact .p rfl | exact .rp (by decide)) rfl rfl) ?_
    refine wp rfl hC (ox_store (bk' := .blk 39 (recX (vle x0) (idP Y 16) v 0 .nils)) hC (.tmp rfl) (.tmp rfl) rfl shp_3 (by first | rfl | exact flat_agI) (by first | exact cells1 rfl | (rw [cells_ag, length_I]; omega) | rfl | (simp <;> fail) | (simp; omega)) (by show _ ≤ (recX _ _ _ _ _).length; rw [length_recX hi16]; decide) (put_rv hi16) (by first | exact .here | exact .s1 rfl | exact .s2 rfl rfl | exact .s3 rfl rfl rfl | exact .s4 rfl rfl rfl rfl | exact .s5 rfl rfl rfl rfl rfl | exact .s6 rfl rfl rfl rfl rfl rfl | exact .s7 rfl rfl rfl rfl rfl rfl rfl | exact .s8 rfl rfl rfl rfl rfl rfl rfl rfl) rfl) ?_
    refine WL_nil ?_
    refine wsr ?_
    refine wp rfl hC (oc_move hC (.tmp rfl) rfl rfl) ?_
    refine wp rfl hC (oc_callG (τ := fun k => bif Nat.beq k 0 then 3 else k) (N' := 4) hC .func (.cons (.tmp rfl) (.cons .cint .nil)) (.own (by first | rfl | simp) (.v1 (.free (by first | exact inSL_I _ | simp)) .end)) (num_u c1 c2 e1 e2 b1 (by omega) 1099511627775 n hn) glob_nil (mr_cons (by first | exact ren_blkI | exact ren_rowI | exact Blk.ren_free (by simp) _ | rfl) rfl mr_nil) (mr_cons (by first | exact ren_blkI | exact ren_rowI | exact Blk.ren_free (by simp) _ | rfl) rfl mr_nil) rfl (rd_cons rfl rd_nil) rfl rfl rfl rfl (by first | exact .inl rfl | exact .inr ⟨by simp, (nv_cons (by first | exact novsL_I _ | simp) nv_nil)⟩) rfl (dst_ok rfl rfl) (fun t => setE_cons _ _ _ _)) ?_
    refine wp rfl hC (oc_field hC (.tmp rfl) fld_39_3 (by decide) (by first | exact .p (Nat.zero_add _) | exact .p rfl | exact .rp (by decide)) rfl rfl) ?_
    refine wp rfl hC (ox_store (bk' := .blk 39 (recX (vle x0) (idP Y 16) v n .nils)) hC (.tmp rfl) (.tmp rfl) rfl shp_3 (by first | rfl | exact flat_agI) (by first | exact cells1 rfl | (rw [cells_ag, length_I]; omega) | rfl | (simp <;> fail) | (simp; omega)) (by show _ ≤ (recX _ _ _ _ _).length; rw [length_recX hi16]; decide) (put_rn hi16) (by first | exact .here | exact .s1 rfl | exact .s2 rfl rfl | exact .s3 rfl rfl rfl | exact .s4 rfl rfl rfl rfl | exact .s5 rfl rfl rfl rfl rfl | exact .s6 rfl rfl rfl rfl rfl rfl | exact .s7 rfl rfl rfl rfl rfl rfl rfl | exact .s8 rfl rfl rfl rfl rfl rfl rfl rfl) rfl) ?_
    refine WL_nil ?_
    refine wsr ?_
    refine wp rfl hC (oc_move hC (.tmp rfl) rfl rfl) ?_
    refine wp rfl hC (oc_callG (τ := fun k => bif Nat.beq k 0 then 3 else k) (N' := 4) hC .func (.cons (.tmp rfl) (.cons .cint .nil)) (.own (by first | rfl | simp) (.v1 (.free (by first | exact inSL_I _ | simp)) .end)) (bytesu_c c2 c3 e2 e3 b2 (by omega) 262144 kk hk he j hj (by omega)) glob_nil (mr_cons (by first | exact ren_blkI | exact ren_rowI | exact Blk.ren_free (by simp) _ | rfl) rfl mr_nil) (mr_cons (by first | exact ren_blkI | exact ren_rowI | exact Blk.ren_free (by simp) _ | rfl) rfl mr_nil) ren_vsI (rd_cons rfl rd_nil) rfl rfl rfl rfl (by first | exact .inl rfl | exact .inr ⟨by simp, (nv_cons (by first | exact novsL_I _ | simp) nv_nil)⟩) rfl (dst_ok rfl rfl) (fun t => setE_cons _ _ _ _)) ?_
    rw [show c3.length - j = (c3.drop j).length by simp]
    refine wp rfl hC (oc_field hC (.tmp rfl) fld_39_4 (by decide) (by first | exact .p (Nat.zero_add _) | exact .p rfl | exact .rp (by decide)) rfl rfl) ?_
    refine wp rfl hC (ox_store (bk' := .blk 39 (recX (vle x0) (idP Y 16) v n (.vs j (I .u8 (c3.take j))))) hC (.tmp rfl) (.tmp rfl) rfl shp_25 (by first | rfl | exact flat_agI) rfl (by show _ ≤ (recX _ _ _ _ _).length; rw [length_recX hi16]; decide) (put_rz hi16) (by first | exact .here | exact .s1 rfl | exact .s2 rfl rfl | exact .s3 rfl rfl rfl | exact .s4 rfl rfl rfl rfl | exact .s5 rfl rfl rfl rfl rfl | exact .s6 rfl rfl rfl rfl rfl rfl | exact .s7 rfl rfl rfl rfl rfl rfl rfl | exact .s8 rfl rfl rfl rfl rfl rfl rfl rfl) rfl) ?_
    refine WL_nil ?_
    refine wsr ?_
    refine wp rfl hC (oc_move hC (.tmp rfl) rfl rfl) ?_
    refine wp rfl hC (oc_callG (τ := fun k => bif Nat.beq k 0 then 3 else k) (N' := 4) hC .func (.cons (.tmp rfl) .nil) (.own (by first | rfl | simp) .end) (end_c (c3.drop j).length (c3.drop j) e3 rfl (fun x hx => b3 x (List.mem_of_mem_drop hx)) (by rw [List.length_drop]; omega) 5 (.inl ⟨he, by rw [List.length_drop]; omega, rfl⟩)) glob_nil (mr_cons (by first | exact ren_blkI | exact ren_rowI | exact Blk.ren_free (by simp) _ | rfl) rfl mr_nil) (mr_cons (by first | exact ren_blkI | exact ren_rowI | exact Blk.ren_free (by simp) _ | rfl) rfl mr_nil) rfl (rd_cons rfl rd_nil) rfl rfl rfl rfl (by first | exact .inl rfl | exact .inr ⟨by simp, (nv_cons (by first | exact novsL_I _ | simp) nv_nil)⟩) rfl (dst_ok rfl rfl) (fun t => setE_cons _ _ _ _)) ?_
    refine wp rfl hC (oc_assign hC (.tmp rfl) rfl rfl) ?_
    refine WL_nil ?_
    refine W_seq ?_
    refine wsr ?_
    refine wp rfl hC (oc_move hC (.tmp rfl) rfl rfl) ?_
    refine wp rfl hC (ox_cmp hC rfl (.tmp rfl) .cint (r := false) rfl rfl rfl) ?_
    refine wp rfl hC (oc_move hC (.tmp rfl) rfl rfl) ?_
    refine WL_cons hC.fn (.no (s1 := ⟨_, (72, .tu []) :: _, _⟩) rfl rfl (by decide) rfl (by decide) (fun t ht => by cases ht; exact ⟨blt_lt rfl, blt_lt rfl⟩) (fun t => setE_cons _ _ _ _) rfl rfl) ?_
    refine WL_cons hC.fn (.no (s1 := ⟨_, (73, .tu []) :: _, _⟩) rfl rfl (by decide) rfl (by decide) (fun t ht => by cases ht; exact ⟨blt_lt rfl, blt_lt rfl⟩) (fun t => setE_cons _ _ _ _) rfl rfl) ?_
    refine WL_cons hC.fn (.no (s1 := ⟨_, (74, .tu []) :: _, _⟩) rfl rfl (by decide) rfl (by decide) (fun t ht => by cases ht; exact ⟨blt_lt rfl, blt_lt rfl⟩) (fun t => setE_cons _ _ _ _) rfl rfl) ?_
    refine wp rfl hC (ox_pick hC (.tmp rfl) (.tmp rfl) .cbool (by first | exact pick_t | exact pick_f | rfl) rfl rfl) ?_
    refine WL_nil ?_
    refine W_cond rfl (by decide) (fun hc => by cases hc) (fun _ => ?_)
    refine W_skip ?_
    refine W_seq ?_
    refine wsr ?_
    refine wp rfl hC (oc_move hC (.tmp rfl) rfl rfl) ?_
    refine wp rfl hC (ox_cmp hC rfl (.tmp rfl) .cint (r := true) rfl rfl rfl) ?_
    refine WL_nil ?_
    refine W_cond rfl (by decide) (fun _ => ?_) (fun hc => by cases hc)
    refine wsr ?_
    refine wp rfl hC (ox_build (out' := recX 0 (List.replicate 16 0) 0 0 .nils) hC .nil zero_39 bld_39 rfl (by unfold recX; rfl) rfl rfl) ?_
    refine wp rfl hC (oc_move hC (.tmp rfl) rfl rfl) ?_
    refine wp rfl hC (ox_store (bk' := .blk 39 (recX 0 (List.replicate 16 0) 0 0 .nils)) hC (.tmp rfl) (.tmp rfl) rfl shp_39 (flat_recX rfl) (by rw [cells_ag, length_recX rfl]) (by show _ ≤ (recX _ _ _ _ _).length; rw [length_recX rfl]; decide) (put_rall rfl rfl) (by first | exact .here | exact .s1 rfl | exact .s2 rfl rfl | exact .s3 rfl rfl rfl | exact .s4 rfl rfl rfl rfl | exact .s5 rfl rfl rfl rfl rfl | exact .s6 rfl rfl rfl rfl rfl rfl | exact .s7 rfl rfl rfl rfl rfl rfl rfl | exact .s8 rfl rfl rfl rfl rfl rfl rfl rfl) rfl) ?_
    refine wp rfl hC (oc_assign hC (.tmp rfl) rfl rfl) ?_
    refine WL_nil ?_
    refine W_ret ?_
    exact fin0 (.cons (.cell rfl (.p rfl) shp_39 (unit_rall (by first | rfl | exact length_idP _ (Nat.le_refl _)))) (.cons (.tmp rfl) .nil)) rfl (by simp)
set_option maxRecDepth 20000 in
set_option maxHeartbeats 4000000 in
theorem decnot_c (s : List Int) (ns m : Nat) (hns : s.length = ns) (bs : B8 s) (hl : ns ≤ 1099511627776) (hm : ns = m + 4 + 4) (hs : vle (s.drop (m + 4)) = ((crcS (s.take (m + 4)) : Nat) : Int)) (hmg : s.take 4 = [84, 65, 80, 69]) (x0 : List Int) (C : Nat → List Int) (E : Nat → Int) (Y : Nat → List Int) (e1 e2 e3 v n kk : Int) (c1 c2 c3 : List Int) (h0 : FixS ((s.drop 4).take m) 0 1 (E 0) (C 0) x0) (hF : ∀ i, i < 16 → FixS (C i) (E i) 1 (E (i + 1)) (C (i + 1)) (Y i)) (hv : NumS (C 16) (E 16) 63 e1 c1 v) (hn : NumS c1 e1 1099511627775 e2 c2 n) (hk : NumS c2 e2 262144 e3 c3 kk) (he : e3 = 0) (hj : kk = (c3.length : Int)) (hQ : ¬ RightR (vle x0) v n c3.length) : FnC Tryd.prog 22 [(1000000, .rp (I .u32 nibT))] [.vs ns (I .u8 s)] [] [] (.tu [.ag (recX 0 (List.replicate 16 0) 0 0 .nils), .i .i64 4]) := by
  have hdl : (s.drop (m + 4)).length = 4 := by rw [List.length_drop]; omega
  have hbd : B8 (s.drop (m + 4)) := fun x hx => bs x (List.mem_of_mem_drop hx)
  have hbt : B8 (s.take (m + 4)) := fun x hx => bs x (List.mem_of_mem_take hx)
  have hcr := crcS_lt hbt
  have hfx : FixS (s.drop (m + 4)) 0 4 0 [] (s.drop (m + 4)) := fix_all hdl
  have hcl : ((s.drop 4).take m).length = m := by rw [List.length_take, List.length_drop]; omega
  have bc : B8 ((s.drop 4).take m) := fun x hx => bs x (List.mem_of_mem_drop (List.mem_of_mem_take hx))
  have hx0 := h0.val bc
  have hch := chain_ok h0 hF bc
  have hi16 := length_idP Y (Nat.le_refl 16)
  have b16 := (hch 16 (Nat.le_refl _)).1
  have l16 := (hch 16 (Nat.le_refl _)).2
  have b1 := hv.b8 b16
  have l1 := hv.len
  have b2 := hn.b8 b1
  have l2 := hn.len
  have b3 := hk.b8 b2
  have l3 := hk.len
  refine FnC.introR (N0 := 0) (T := 81) (E := [(0, .vs ns (I .u8 s)), (1000000, .rp (I .u32 nibT))]) Tryd.func22 rfl (by decide) mix rfl rfl rfl (by simp) rfl ⟨(by first | exact inSL_I _ | trivial | simp), trivial⟩ (by simp) (by intro S _ _ h; simp) (fun F n0 X w ρ hC hro => ?_)
  refine wsr ?_
  refine wp rfl hC (ox_alloc (cs' := recX 0 (List.replicate 16 0) 0 0 .nils) hC zero_39 (by unfold recX; rfl) rfl rfl) ?_
  refine wp rfl hC (oc_assign hC .cint rfl rfl) ?_
  refine WL_nil ?_
  refine wsr ?_
  refine wp rfl hC (oc_move hC (.tmp rfl) rfl rfl) ?_
  refine wp rfl hC (ox_len hC (.tmp rfl) (by first | exact .row rfl | exact .vs | exact .sl rfl | exact .nils) Tryd.underlying25 rfl rfl rfl) ?_
  refine wp rfl hC (oc_bin hC rfl (.tmp rfl) .cint (r := (((m + 4) : Nat) : Int)) ((i64_sub (by omega)).trans (by omega)) rfl rfl) ?_
  refine wp rfl hC (oc_assign hC (.tmp rfl) rfl rfl) ?_
  refine WL_nil ?_
  refine W_seq ?_
  refine W_blk ?_
  refine wsr ?_
  refine wp rfl hC (oc_move hC (.tmp rfl) rfl rfl) ?_
  refine wp rfl hC (ox_cmp hC rfl (.tmp rfl) .cint (r := false) (by simp only [cmpI]; exact decide_eq_false (by omega)) rfl rfl) ?_
  refine wp rfl hC (oc_assign hC (.tmp rfl) rfl rfl) ?_
  refine WL_nil ?_
  refine W_cond rfl (by decide) (fun hc => by cases hc) (fun _ => ?_)
  refine W_seq ?_
  refine W_drawD hC ?_
  refine WD_cons (.plain rfl (oc_move hC (.tmp rfl) rfl rfl)) ?_
  refine WD_cons (.plain rfl (oc_move hC (.tmp rfl) rfl rfl)) ?_
  refine WD_cons (.plain rfl (ox_cutS (u' := .vs (s.drop (m + 4)).length (I .u8 (s.drop (m + 4)))) hC (.tmp rfl) (.yes (n := (m + 4)) (.tmp rfl) (by first | rfl | omega | (simp; omega))) .no idx_25 (by first | exact .row rfl (Nat.mul_one _) | exact .sl rfl | exact .vs (by first | omega | (simp <;> fail) | (simp; omega)) | exact .nils) (by first | omega | (simp <;> fail) | (simp; omega)) (by first | omega | (simp <;> fail) | (simp; omega)) (by rw [cut_vsI]; exact cut_rest hns) rfl rfl)) ?_
  refine WD_cons (.plain rfl (oc_callG (τ := fun k => bif Nat.beq k 0 then 1 else k) (N' := 2) hC .func (.cons (.tmp rfl) .nil) (.v1 (by first | exact .free (by first | exact inSL_I _ | simp) | exact .row rfl rfl (by first | exact inSL_I _ | simp) | exact .nils | exact .sl1 rfl (by first | exact cut_I | rfl) (by first | exact inSL_I _ | simp)) .end) (new_c _ (s.drop (m + 4)) rfl (by rw [List.length_drop]; omega)) glob_nil mr_nil (mr_cons (by first | exact ren_blkI | exact ren_rowI | exact Blk.ren_free (by simp) _ | rfl) rfl mr_nil) rfl rd_nil rfl rfl rfl rfl (by first | exact .inl rfl | exact .inr ⟨by simp, (nv_cons (by first | exact novsL_I _ | simp) nv_nil)⟩) rfl (dst_ok rfl rfl) (fun t => setE_cons _ _ _ _))) ?_
  refine WD_cons (.plain rfl (oc_callG (τ := fun k => bif Nat.beq k 0 then 1 else k) (N' := 2) hC .func (.cons (.tmp rfl) (.cons .cint .nil)) (.own (by first | rfl | simp) (.v1 (.free (by first | exact inSL_I _ | simp)) .end)) (fixr_u (s.drop (m + 4)) [] 0 0 hbd (by omega) (s.drop (m + 4)) 4 hfx) glob_nil (mr_cons (by first | exact ren_blkI | exact ren_rowI | exact Blk.ren_free (by simp) _ | rfl) rfl mr_nil) (mr_cons (by first | exact ren_blkI | exact ren_rowI | exact Blk.ren_free (by simp) _ | rfl) rfl mr_nil) rfl (rd_cons rfl rd_nil) rfl rfl rfl rfl (by first | exact .inl rfl | exact .inr ⟨by simp, (nv_cons (by first | exact novsL_I _ | simp) nv_nil)⟩) rfl (dst_ok rfl rfl) (fun t => setE_cons _ _ _ _))) ?_
  refine WD_cons (.plain rfl (oc_move hC (.tmp rfl) rfl rfl)) ?_
  refine WD_cons (.plain rfl (oc_move hC (.tmp rfl) rfl rfl)) ?_
  refine WD_cons (.plain rfl (ox_cutS (u' := .vs (s.take (m + 4)).length (I .u8 (s.take (m + 4)))) hC (.tmp rfl) .no (.yes (n := (m + 4)) (.tmp rfl) (by first | rfl | omega | (simp; omega))) idx_25 (by first | exact .row rfl (Nat.mul_one _) | exact .sl rfl | exact .vs (by first | omega | (simp <;> fail) | (simp; omega)) | exact .nils) (by first | omega | (simp <;> fail) | (simp; omega)) (by first | omega | (simp <;> fail) | (simp; omega)) (by rw [cut_vsI]; exact cut_pre hns (by omega)) rfl rfl)) ?_
  refine WD_cons (.plain rfl (ox_lit hC (.cons (.tmp rfl) .nil) Tryd.underlying78 cells_25 zero_25 rfl (by decide) rfl rfl (by first | rfl | simp) rfl rfl)) ?_
  refine WD_cons (.plain rfl (oc_call hC (.cons (.tmp rfl) .nil) (.vs (.free (inSL_I _) (.same trivial)) (.same trivial)) (sumof_c (s.take (m + 4)).length (s.take (m + 4)) rfl hbt (by rw [List.length_take]; omega)) (glob_cons rfl rfl (by first | exact inSL_I _ | simp) glob_nil) (by first | exact inSL_I _ | simp) (by first | exact .inl rfl | exact .inr (by simp)) rfl rfl)) ?_
  refine WD_cons (.plain rfl (oc_conv hC (.tmp rfl) rfl Tryd.underlying55 (r := ((crcS (s.take (m + 4)) : Nat) : Int)) (u64_conv (by omega)) rfl rfl)) ?_
  refine WD_cons (.plain rfl (ox_cmp hC rfl (.tmp rfl) (.tmp rfl) (r := false) (by rw [hs]; simp [cmpI]) rfl rfl)) ?_
  refine WD_cons (.plain rfl (oc_assign hC (.tmp rfl) rfl rfl)) ?_
  refine WD_nil (by kernel_rfl) ?_
  refine W_cond rfl (by decide) (fun hc => by cases hc) (fun _ => ?_)
  refine wsr ?_
  refine wp rfl hC (oc_move hC (.tmp rfl) rfl rfl) ?_
  refine wp rfl hC (ox_cmp hC rfl (.tmp rfl) .cint (r := false) (by simp only [cmpI]; exact decide_eq_false (by omega)) rfl rfl) ?_
  refine wp rfl hC (oc_move hC (.tmp rfl) rfl rfl) ?_
  refine WL_cons hC.fn (.yes rfl rfl (by decide) rfl (oc_move hC (.tmp rfl) rfl rfl)) ?_
  refine WL_cons hC.fn (.yes rfl rfl (by decide) rfl (ox_cutS (u' := .vs (s.take 4).length (I .u8 (s.take 4))) hC (.tmp rfl) .no (.yes (n := 4) .cint (by first | rfl | omega | (simp; omega))) idx_25 (by first | exact .row rfl (Nat.mul_one _) | exact .sl rfl | exact .vs (by first | omega | (simp <;> fail) | (simp; omega)) | exact .nils) (by first | omega | (simp <;> fail) | (simp; omega)) (by first | omega | (simp <;> fail) | (simp; omega)) (by rw [cut_vsI]; exact cut_pre hns (by omega)) rfl rfl)) ?_
  refine WL_cons hC.fn (.yes rfl rfl (by decide) rfl (ox_b2s (l := (s.take 4)) hC (.tmp rfl) (by first | exact .row rfl | exact .vs | exact .sl rfl | exact .nils) (take_allI rfl) rfl Tryd.underlying25 Tryd.underlying5 Tryd.underlying9 rfl rfl)) ?_
  refine WL_cons hC.fn (.yes rfl rfl (by decide) rfl (ox_eqs hC (.inr rfl) (.tmp rfl) .cstr (r := false) (by rw [hmg]; decide) rfl rfl)) ?_
  refine wp rfl hC (ox_pick hC (.tmp rfl) .cbool (.tmp rfl) (by first | exact pick_t | exact pick_f | rfl) rfl rfl) ?_
  refine wp rfl hC (oc_assign hC (.tmp rfl) rfl rfl) ?_
  refine WL_nil ?_
  refine W_cond rfl (by decide) (fun hc => by cases hc) (fun _ => ?_)
  refine W_skip ?_
  refine wsr ?_
  refine wp rfl hC (ox_alloc (cs' := recX 0 (List.replicate 16 0) 0 0 .nils) hC zero_39 (by unfold recX; rfl) rfl rfl) ?_
  refine WL_nil ?_
  refine wsr ?_
  refine wp rfl hC (oc_move hC (.tmp rfl) rfl rfl) ?_
  refine wp rfl hC (oc_move hC (.tmp rfl) rfl rfl) ?_
  refine wp rfl hC (ox_cutS (u' := .vs ((s.drop 4).take m).length (I .u8 ((s.drop 4).take m))) hC (.tmp rfl) (.yes (n := 4) .cint (by first | rfl | omega | (simp; omega))) (.yes (n := (m + 4)) (.tmp rfl) (by first | rfl | omega | (simp; omega))) idx_25 (by first | exact .row rfl (Nat.mul_one _) | exact .sl rfl | exact .vs (by first | omega | (simp <;> fail) | (simp; omega)) | exact .nils) (by first | omega | (simp <;> fail) | (simp; omega)) (by first | omega | (simp <;> fail) | (simp; omega)) (by rw [cut_vsI, hcl]; simp) rfl rfl) ?_
  refine wp rfl hC (oc_callG (τ := fun k => bif Nat.beq k 0 then 3 else k) (N' := 4) hC .func (.cons (.tmp rfl) .nil) (.v1 (by first | exact .free (by first | exact inSL_I _ | simp) | exact .row rfl rfl (by first | exact inSL_I _ | simp) | exact .nils | exact .sl1 rfl (by first | exact cut_I | rfl) (by first | exact inSL_I _ | simp)) .end) (new_c _ ((s.drop 4).take m) rfl (by omega)) glob_nil mr_nil (mr_cons (by first | exact ren_blkI | exact ren_rowI | exact Blk.ren_free (by simp) _ | rfl) rfl mr_nil) rfl rd_nil rfl rfl rfl rfl (by first | exact .inl rfl | exact .inr ⟨by simp, (nv_cons (by first | exact novsL_I _ | simp) nv_nil)⟩) rfl (dst_ok rfl rfl) (fun t => setE_cons _ _ _ _)) ?_
  refine wp rfl hC (oc_assign hC (.tmp rfl) rfl rfl) ?_
  refine WL_nil ?_
  refine wsr ?_
  refine wp rfl hC (oc_move hC (.tmp rfl) rfl rfl) ?_
  refine wp rfl hC (oc_callG (τ := fun k => bif Nat.beq k 0 then 3 else k) (N' := 4) hC .func (.cons (.tmp rfl) (.cons .cint .nil)) (.own (by first | rfl | simp) (.v1 (.free (by first | exact inSL_I _ | simp)) .end)) (fixr_u ((s.drop 4).take m) (C 0) 0 (E 0) bc (by omega) x0 1 h0) glob_nil (mr_cons (by first | exact ren_blkI | exact ren_rowI | exact Blk.ren_free (by simp) _ | rfl) rfl mr_nil) (mr_cons (by first | exact ren_blkI | exact ren_rowI | exact Blk.ren_free (by simp) _ | rfl) rfl mr_nil) rfl (rd_cons rfl rd_nil) rfl rfl rfl rfl (by first | exact .inl rfl | exact .inr ⟨by simp, (nv_cons (by first | exact novsL_I _ | simp) nv_nil)⟩) rfl (dst_ok rfl rfl) (fun t => setE_cons _ _ _ _)) ?_
  refine wp rfl hC (oc_conv hC (.tmp rfl) rfl Tryd.underlying3 (r := (vle x0)) (i64_conv (by omega)) rfl rfl) ?_
  refine wp rfl hC (oc_field hC (.tmp rfl) fld_39_0 (by decide) (by first | exact .p (Nat.zero_add _) | exact .p rfl | exact .rp (by decide)) rfl rfl) ?_
  refine wp rfl hC (ox_store (bk' := .blk 39 (recX (vle x0) (List.replicate 16 0) 0 0 .nils)) hC (.tmp rfl) (.tmp rfl) rfl shp_3 (by first | rfl | exact flat_agI) (by first | exact cells1 rfl | (rw [cells_ag, length_I]; omega) | rfl | (simp <;> fail) | (simp; omega)) (by show _ ≤ (recX _ _ _ _ _).length; rw [length_recX rfl]; decide) put_rk (by first | exact .here | exact .s1 rfl | exact .s2 rfl rfl | exact .s3 rfl rfl rfl | exact .s4 rfl rfl rfl rfl | exact .s5 rfl rfl rfl rfl rfl | exact .s6 rfl rfl rfl rfl rfl rfl | exact .s7 rfl rfl rfl rfl rfl rfl rfl | exact .s8 rfl rfl rfl rfl rfl rfl rfl rfl) rfl) ?_
  refine WL_nil ?_
  refine W_seq ?_
  refine wsr ?_
  refine wp rfl hC (oc_move hC .cint rfl rfl) ?_
  refine WL_nil ?_
  refine W_blk ?_
  refine W_loopW (fun (ζ : Nat) => ⟨4, [(2, .p 0 0), (3, .i .i64 0), (5, .p 2 0), (6, .p 3 0), (48, .i .i64 ζ), (1000000, .rp (I .u32 nibT))], [(0, .blk 39 (recX 0 (List.replicate 16 0) 0 0 .nils)), (2, .blk 39 (recX (vle x0) (idP Y ζ) 0 0 .nils)), (3, .blk 70 [.vs (C ζ).length (I .u8 (C ζ)), .i .i64 (E ζ)])]⟩) (fun ζ => ζ ≤ 16) (fun ζ => 16 - ζ) (0) (Nat.zero_le _) (weak (fun k => k) (.cons rfl (by first | rfl | simp) (by show _ < _; decide) (.cons rfl (by first | rfl | exact congrArg (AV.i _) (by omega) | exact congrArg (AV.i _) (by simp; omega)) trivial (.cons rfl (by first | rfl | simp) (by show _ < _; decide) (.cons rfl (by first | rfl | simp) (by show _ < _; decide) (.cons rfl rfl trivial (.cons rfl (by first | exact ren_agI | exact ren_vsI | exact ren_free _ _ (by first | exact inSL_I _ | simp)) (by first | exact inSL_I _ | simp) .nil)))))) (.cons rfl ren_rec0 rfl (by first | exact inSL_I _ | simp) (.cons rfl (ren_rec0.trans (by rw [idP_zero])) rfl (by first | exact inSL_I _ | simp) (.cons rfl (Blk.ren_free (by simp) _) rfl (by first | exact inSL_I _ | simp) .nil))) rfl rfl rfl) ?_
  intro i hR
  replace hR : i ≤ 16 := hR
  first | show W _ _ _ ⟨4, [(2, .p 0 0), (3, .i .i64 0), (5, .p 2 0), (6, .p 3 0), (48, .i .i64 i), (1000000, .rp (I .u32 nibT))], [(0, .blk 39 (recX 0 (List.replicate 16 0) 0 0 .nils)), (2, .blk 39 (recX (vle x0) (idP Y i) 0 0 .nils)), (3, .blk 70 [.vs (C i).length (I .u8 (C i)), .i .i64 (E i)])]⟩ | skip
  have hii := length_idP Y hR
  refine wsr ?_
  refine wp rfl hC (ox_cmp hC rfl (.tmp rfl) .cint rfl rfl rfl) ?_
  refine WL_nil ?_
  refine W_seq ?_
  refine W_cond rfl (by decide) (fun hc => ?_) (fun hc => ?_)
  ·
    replace hc := lss_t hc
    have hfi := hF i (by omega)
    have hbi := (hch i (by omega)).1
    have hli := (hch i (by omega)).2
    have hxi := hfi.val hbi
    refine W_skip ?_
    refine W_seq ?_
    refine W_blk ?_
    refine wsr ?_
    refine wp rfl hC (oc_move hC (.tmp rfl) rfl rfl) ?_
    refine wp rfl hC (oc_assign hC (.tmp rfl) rfl rfl) ?_
    refine WL_nil ?_
    refine W_region ?_
    refine wp rfl hC (oc_move hC (.tmp rfl) rfl rfl) ?_
    refine wp rfl hC (oc_move hC (.tmp rfl) rfl rfl) ?_
    refine wp rfl hC (oc_callG (τ := fun k => bif Nat.beq k 0 then 3 else k) (N' := 4) hC .func (.cons (.tmp rfl) (.cons .cint .nil)) (.own (by first | rfl | simp) (.v1 (.free (by first | exact inSL_I _ | simp)) .end)) (fixr_u (C i) (C (i + 1)) (E i) (E (i + 1)) hbi (by omega) (Y i) 1 hfi) glob_nil (mr_cons (by first | exact ren_blkI | exact ren_rowI | exact Blk.ren_free (by simp) _ | rfl) rfl mr_nil) (mr_cons (by first | exact ren_blkI | exact ren_rowI | exact Blk.ren_free (by simp) _ | rfl) rfl mr_nil) rfl (rd_cons rfl rd_nil) rfl rfl rfl rfl (by first | exact .inl rfl | exact .inr ⟨by simp, (nv_cons (by first | exact novsL_I _ | simp) nv_nil)⟩) rfl (dst_ok rfl rfl) (fun t => setE_cons _ _ _ _)) ?_
    refine wp rfl hC (oc_conv hC (.tmp rfl) rfl Tryd.underlying5 (r := (vle (Y i))) (u8_conv (by omega)) rfl rfl) ?_
    refine wp rfl hC (oc_field hC (.tmp rfl) fld_39_1 (by decide) (by first | exact .p (Nat.zero_add _) | exact .p rfl | exact .rp (by decide)) rfl rfl) ?_
    refine wp rfl hC (ox_indexA hC (j := i) (.tmp rfl) (.tmp rfl) idx_37 (by first | rfl | omega | (simp; omega)) (by omega) (by first | exact Nat.mul_one _ | rfl) (by first | exact .p (Nat.zero_add _) | exact .p rfl | exact .rp (by first | omega | (simp <;> fail) | (simp; omega))) rfl rfl) ?_
    refine wp rfl hC (ox_store (bk' := .blk 39 (recX (vle x0) ((idP Y i).set i (vle (Y i))) 0 0 .nils)) hC (.tmp rfl) (.tmp rfl) rfl shp_5 (by first | rfl | exact flat_agI) (by first | exact cells1 rfl | (rw [cells_ag, length_I]; omega) | rfl | (simp <;> fail) | (simp; omega)) (by show _ ≤ (recX _ _ _ _ _).length; rw [length_recX hii]; omega) (put_rid hii (by omega)) (by first | exact .here | exact .s1 rfl | exact .s2 rfl rfl | exact .s3 rfl rfl rfl | exact .s4 rfl rfl rfl rfl | exact .s5 rfl rfl rfl rfl rfl | exact .s6 rfl rfl rfl rfl rfl rfl | exact .s7 rfl rfl rfl rfl rfl rfl rfl | exact .s8 rfl rfl rfl rfl rfl rfl rfl rfl) rfl) ?_
    refine WL_nil ?_
    refine W_region ?_
    refine wp rfl hC (oc_bin hC rfl (.tmp rfl) .cint (by first | exact i64_add (by omega) | rfl) rfl rfl) ?_
    refine wp rfl hC (oc_move hC (.tmp rfl) rfl rfl) ?_
    refine WL_nil ?_
    exact ⟨(i + 1), (by omega), (weak (fun k => k) (.cons rfl (by first | rfl | simp) (by show _ < _; decide) (.cons rfl (by first | rfl | exact congrArg (AV.i _) (by omega) | exact congrArg (AV.i _) (by simp; omega)) trivial (.cons rfl (by first | rfl | simp) (by show _ < _; decide) (.cons rfl (by first | rfl | simp) (by show _ < _; decide) (.cons rfl (by first | rfl | exact congrArg (AV.i _) (by omega) | exact congrArg (AV.i _) (by simp; omega)) trivial (.cons rfl (by first | exact ren_agI | exact ren_vsI | exact ren_free _ _ (by first | exact inSL_I _ | simp)) (by first | exact inSL_I _ | simp) .nil)))))) (.cons rfl ren_rec0 rfl (by first | exact inSL_I _ | simp) (.cons rfl (ren_rec0.trans (by rw [idP_set (by omega)])) rfl (by first | exact inSL_I _ | simp) (.cons rfl (Blk.ren_free (by simp) _) rfl (by first | exact inSL_I _ | simp) .nil))) rfl rfl rfl), (by omega)⟩
  ·
    replace hc := lss_f hc
    obtain rfl : i = 16 := by omega
    refine W_exit ?_
    refine wsr ?_
    refine wp rfl hC (oc_move hC (.tmp rfl) rfl rfl) ?_
    refine wp rfl hC (oc_callG (τ := fun k => bif Nat.beq k 0 then 3 else k) (N' := 4) hC .func (.cons (.tmp rfl) (.cons .cint .nil)) (.own (by first | rfl | simp) (.v1 (.free (by first | exact inSL_I _ | simp)) .end)) (num_u (C 16) c1 (E 16) e1 b16 (by omega) 63 v hv) glob_nil (mr_cons (by first | exact ren_blkI | exact ren_rowI | exact Blk.ren_free (by simp) _ | rfl) rfl mr_nil) (mr_cons (by first | exact ren_blkI | exact ren_rowI | exact Blk.ren_free (by simp) _ | rfl) rfl mr_nil) rfl (rd_cons rfl rd_nil) rfl rfl rfl rfl (by first | exact .inl rfl | exact .inr ⟨by simp, (nv_cons (by first | exact novsL_I _ | simp) nv_nil)⟩) rfl (dst_ok rfl rfl) (fun t => setE_cons _ _ _ _)) ?_
    refine wp rfl hC (oc_field hC (.tmp rfl) fld_39_2 (by decide) (by first | exact .p (Nat.zero_add _) | exact .p rfl | exact .rp (by decide)) rfl rfl) ?_
    refine wp rfl hC (ox_store (bk' := .blk 39 (recX (vle x0) (idP Y 16) v 0 .nils)) hC (.tmp rfl) (.tmp rfl) rfl shp_3 (by first | rfl | exact flat_agI) (by first | exact cells1 rfl | (rw [cells_ag, length_I]; omega) | rfl | (simp <;> fail) | (simp; omega)) (by show _ ≤ (recX _ _ _ _ _).length; rw [length_recX hi16]; decide) (put_rv hi16) (by first | exact .here | exact .s1 rfl | exact .s2 rfl rfl | exact .s3 rfl rfl rfl | exact .s4 rfl rfl rfl rfl | exact .s5 rfl rfl rfl rfl rfl | exact .s6 rfl rfl rfl rfl rfl rfl | exact .s7 rfl rfl rfl rfl rfl rfl rfl | exact .s8 rfl rfl rfl rfl rfl rfl rfl rfl) rfl) ?_
    refine WL_nil ?_
    refine wsr ?_
    refine wp rfl hC (oc_move hC (.tmp rfl) rfl rfl) ?_
    refine wp rfl hC (oc_callG (τ := fun k => bif Nat.beq k 0 then 3 else k) (N' := 4) hC .func (.cons (.tmp rfl) (.cons .cint .nil)) (.own (by first | rfl | simp) (.v1 (.free (by first | exact inSL_I _ | simp)) .end)) (num_u c1 c2 e1 e2 b1 (by omega) 1099511627775 n hn) glob_nil (mr_cons (by first | exact ren_blkI | exact ren_rowI | exact Blk.ren_free (by simp) _ | rfl) rfl mr_nil) (mr_cons (by first | exact ren_blkI | exact ren_rowI | exact Blk.ren_free (by simp) _ | rfl) rfl mr_nil) rfl (rd_cons rfl rd_nil) rfl rfl rfl rfl (by first | exact .inl rfl | exact .inr ⟨by simp, (nv_cons (by first | exact novsL_I _ | simp) nv_nil)⟩) rfl (dst_ok rfl rfl) (fun t => setE_cons _ _ _ _)) ?_
    refine wp rfl hC (oc_field hC (.tmp rfl) fld_39_3 (by decide) (by first | exact .p (Nat.zero_add _) | exact .p rfl | exact .rp (by decide)) rfl rfl) ?_
    refine wp rfl hC (ox_store (bk' := .blk 39 (recX (vle x0) (idP Y 16) v n .nils)) hC (.tmp rfl) (.tmp rfl) rfl shp_3 (by first | rfl | exact flat_agI) (by first | exact cells1 rfl | (rw [cells_ag, length_I]; omega) | rfl | (simp <;> fail) | (simp; omega)) (by show _ ≤ (recX _ _ _ _ _).length; rw [length_recX hi16]; decide) (put_rn hi16) (by first | exact .here | exact .s1 rfl | exact .s2 rfl rfl | exact .s3 rfl rfl rfl | exact .s4 rfl rfl rfl rfl | exact .s5 rfl rfl rfl rfl rfl | exact .s6 rfl rfl rfl rfl rfl rfl | exact .s7 rfl rfl rfl rfl rfl rfl rfl | exact .s8 rfl rfl rfl rfl rfl rfl rfl rfl) rfl) ?_
    refine WL_nil ?_
    refine wsr ?_
    refine wp rfl hC (oc_move hC (.tmp rfl) rfl rfl) ?_
    refine wp rfl hC (oc_callG (τ := fun k => bif Nat.beq k 0 then 3 else k) (N' := 4) hC .func (.cons (.tmp rfl) (.cons .cint .nil)) (.own (by first | rfl | simp) (.v1 (.free (by first | exact inSL_I _ | simp)) .end)) (bytesu_c c2 c3 e2 e3 b2 (by omega) 262144 kk hk he c3.length hj (Nat.le_refl _)) glob_nil (mr_cons (by first | exact ren_blkI | exact ren_rowI | exact Blk.ren_free (by simp) _ | rfl) rfl mr_nil) (mr_cons (by first | exact ren_blkI | exact ren_rowI | exact Blk.ren_free (by simp) _ | rfl) rfl mr_nil) ren_vsI (rd_cons rfl rd_nil) rfl rfl rfl rfl (by first | exact .inl rfl | exact .inr ⟨by simp, (nv_cons (by first | exact novsL_I _ | simp) nv_nil)⟩) rfl (dst_ok rfl rfl) (fun t => setE_cons _ _ _ _)) ?_
    rw [show c3.length - c3.length = (c3.drop c3.length).length by simp, List.take_length]
    refine wp rfl hC (oc_field hC (.tmp rfl) fld_39_4 (by decide) (by first | exact .p (Nat.zero_add _) | exact .p rfl | exact .rp (by decide)) rfl rfl) ?_
    refine wp rfl hC (ox_store (bk' := .blk 39 (recX (vle x0) (idP Y 16) v n (bodyV c3))) hC (.tmp rfl) (.tmp rfl) rfl shp_25 (by first | rfl | exact flat_agI) rfl (by show _ ≤ (recX _ _ _ _ _).length; rw [length_recX hi16]; decide) (put_rz hi16) (by first | exact .here | exact .s1 rfl | exact .s2 rfl rfl | exact .s3 rfl rfl rfl | exact .s4 rfl rfl rfl rfl | exact .s5 rfl rfl rfl rfl rfl | exact .s6 rfl rfl rfl rfl rfl rfl | exact .s7 rfl rfl rfl rfl rfl rfl rfl | exact .s8 rfl rfl rfl rfl rfl rfl rfl rfl) rfl) ?_
    refine WL_nil ?_
    refine wsr ?_
    refine wp rfl hC (oc_move hC (.tmp rfl) rfl rfl) ?_
    refine wp rfl hC (oc_callG (τ := fun k => bif Nat.beq k 0 then 3 else k) (N' := 4) hC .func (.cons (.tmp rfl) .nil) (.own (by first | rfl | simp) .end) (end_c (c3.drop c3.length).length (c3.drop c3.length) e3 rfl (fun x hx => b3 x (List.mem_of_mem_drop hx)) (by rw [List.length_drop]; omega) 0 (.inr (.inl ⟨he, by rw [List.length_drop]; omega, rfl⟩))) glob_nil (mr_cons (by first | exact ren_blkI | exact ren_rowI | exact Blk.ren_free (by simp) _ | rfl) rfl mr_nil) (mr_cons (by first | exact ren_blkI | exact ren_rowI | exact Blk.ren_free (by simp) _ | rfl) rfl mr_nil) rfl (rd_cons rfl rd_nil) rfl rfl rfl rfl (by first | exact .inl rfl | exact .inr ⟨by simp, (nv_cons (by first | exact novsL_I _ | simp) nv_nil)⟩) rfl (dst_ok rfl rfl) (fun t => setE_cons _ _ _ _)) ?_
    refine wp rfl hC (oc_assign hC (.tmp rfl) rfl rfl) ?_
    refine WL_nil ?_
    refine W_seq ?_
    refine wsr ?_
    refine wp rfl hC (oc_move hC (.tmp rfl) rfl rfl) ?_
    refine wp rfl hC (ox_cmp hC rfl (.tmp rfl) .cint (r := true) rfl rfl rfl) ?_
    refine wp rfl hC (oc_move hC (.tmp rfl) rfl rfl) ?_
    refine WL_cons hC.fn (.yes rfl rfl (by decide) rfl (oc_load hC (.tmp rfl) (by first | exact .p rfl | exact .rp) shp_39 (by exact (unit_rall hi16)) rfl rfl)) ?_
    refine WL_cons hC.fn (.yes rfl rfl (by decide) rfl (oc_call hC (.cons (.tmp rfl) .nil) (.cons1 (.free (by first | exact inSL_I _ | simp)) (.same (by first | exact inSL_I _ | simp))) (right_f (vle x0) (idP Y 16) v n c3 hi16 (B8_idP hF hch) b3 hQ) glob_nil (by first | exact inSL_I _ | simp) (by first | exact .inl rfl | exact .inr (by simp)) rfl rfl)) ?_
    refine WL_cons hC.fn (.yes rfl rfl (by decide) rfl (oc_not hC (.tmp rfl) rfl rfl)) ?_
    refine wp rfl hC (ox_pick hC (.tmp rfl) (.tmp rfl) .cbool (by first | exact pick_t | exact pick_f | rfl) rfl rfl) ?_
    refine WL_nil ?_
    refine W_cond rfl (by decide) (fun _ => ?_) (fun hc => by cases hc)
    refine W_region ?_
    refine wp rfl hC (oc_assign hC .cint rfl rfl) ?_
    refine WL_nil ?_
    refine W_seq ?_
    refine wsr ?_
    refine wp rfl hC (oc_move hC (.tmp rfl) rfl rfl) ?_
    refine wp rfl hC (ox_cmp hC rfl (.tmp rfl) .cint (r := true) rfl rfl rfl) ?_
    refine WL_nil ?_
    refine W_cond rfl (by decide) (fun _ => ?_) (fun hc => by cases hc)
    refine wsr ?_
    refine wp rfl hC (ox_build (out' := recX 0 (List.replicate 16 0) 0 0 .nils) hC .nil zero_39 bld_39 rfl (by unfold recX; rfl) rfl rfl) ?_
    refine wp rfl hC (oc_move hC (.tmp rfl) rfl rfl) ?_
    refine wp rfl hC (ox_store (bk' := .blk 39 (recX 0 (List.replicate 16 0) 0 0 .nils)) hC (.tmp rfl) (.tmp rfl) rfl shp_39 (flat_recX rfl) (by rw [cells_ag, length_recX rfl]) (by show _ ≤ (recX _ _ _ _ _).length; rw [length_recX rfl]; decide) (put_rall rfl rfl) (by first | exact .here | exact .s1 rfl | exact .s2 rfl rfl | exact .s3 rfl rfl rfl | exact .s4 rfl rfl rfl rfl | exact .s5 rfl rfl rfl rfl rfl | exact .s6 rfl rfl rfl rfl rfl rfl | exact .s7 rfl rfl rfl rfl rfl rfl rfl | exact .s8 rfl rfl rfl rfl rfl rfl rfl rfl) rfl) ?_
    refine wp rfl hC (oc_assign hC (.tmp rfl) rfl rfl) ?_
    refine WL_nil ?_
    refine W_ret ?_
    exact fin0 (.cons (.cell rfl (.p rfl) shp_39 (unit_rall (by first | rfl | exact length_idP _ (Nat.le_refl _)))) (.cons (.tmp rfl) .nil)) rfl (by simp)
set_option maxRecDepth 20000 in
set_option maxHeartbeats 4000000 in
theorem dec_c (s : List Int) (ns m : Nat) (hns : s.length = ns) (bs : B8 s) (hl : ns ≤ 1099511627776) (hm : ns = m + 4 + 4) (hs : vle (s.drop (m + 4)) = ((crcS (s.take (m + 4)) : Nat) : Int)) (hmg : s.take 4 = [84, 65, 80, 69]) (x0 : List Int) (C : Nat → List Int) (E : Nat → Int) (Y : Nat → List Int) (e1 e2 e3 v n kk : Int) (c1 c2 c3 : List Int) (h0 : FixS ((s.drop 4).take m) 0 1 (E 0) (C 0) x0) (hF : ∀ i, i < 16 → FixS (C i) (E i) 1 (E (i + 1)) (C (i + 1)) (Y i)) (hv : NumS (C 16) (E 16) 63 e1 c1 v) (hn : NumS c1 e1 1099511627775 e2 c2 n) (hk : NumS c2 e2 262144 e3 c3 kk) (he : e3 = 0) (hj : kk = (c3.length : Int)) (hQ : RightR (vle x0) v n c3.length) : FnC Tryd.prog 22 [(1000000, .rp (I .u32 nibT))] [.vs ns (I .u8 s)] [] [] (.tu [.ag (recX (vle x0) (idP Y 16) v n (bodyV c3)), .i .i64 0]) := by
  have hdl : (s.drop (m + 4)).length = 4 := by rw [List.length_drop]; omega
  have hbd : B8 (s.drop (m + 4)) := fun x hx => bs x (List.mem_of_mem_drop hx)
  have hbt : B8 (s.take (m + 4)) := fun x hx => bs x (List.mem_of_mem_take hx)
  have hcr := crcS_lt hbt
  have hfx : FixS (s.drop (m + 4)) 0 4 0 [] (s.drop (m + 4)) := fix_all hdl
  have hcl : ((s.drop 4).take m).length = m := by rw [List.length_take, List.length_drop]; omega
  have bc : B8 ((s.drop 4).take m) := fun x hx => bs x (List.mem_of_mem_drop (List.mem_of_mem_take hx))
  have hx0 := h0.val bc
  have hch := chain_ok h0 hF bc
  have hi16 := length_idP Y (Nat.le_refl 16)
  have b16 := (hch 16 (Nat.le_refl _)).1
  have l16 := (hch 16 (Nat.le_refl _)).2
  have b1 := hv.b8 b16
  have l1 := hv.len
  have b2 := hn.b8 b1
  have l2 := hn.len
  have b3 := hk.b8 b2
  have l3 := hk.len
  refine FnC.introR (N0 := 0) (T := 81) (E := [(0, .vs ns (I .u8 s)), (1000000, .rp (I .u32 nibT))]) Tryd.func22 rfl (by decide) mix rfl rfl rfl (by simp) rfl ⟨(by first | exact inSL_I _ | trivial | simp), trivial⟩ (by simp) (by intro S _ _ h; simp) (fun F n0 X w ρ hC hro => ?_)
  refine wsr ?_
  refine wp rfl hC (ox_alloc (cs' := recX 0 (List.replicate 16 0) 0 0 .nils) hC zero_39 (by unfold recX; rfl) rfl rfl) ?_
  refine wp rfl hC (oc_assign hC .cint rfl rfl) ?_
  refine WL_nil ?_
  refine wsr ?_
  refine wp rfl hC (oc_move hC (.tmp rfl) rfl rfl) ?_
  refine wp rfl hC (ox_len hC (.tmp rfl) (by first | exact .row rfl | exact .vs | exact .sl rfl | exact .nils) Tryd.underlying25 rfl rfl rfl) ?_
  refine wp rfl hC (oc_bin hC rfl (.tmp rfl) .cint (r := (((m + 4) : Nat) : Int)) ((i64_sub (by omega)).trans (by omega)) rfl rfl) ?_
  refine wp rfl hC (oc_assign hC (.tmp rfl) rfl rfl) ?_
  refine WL_nil ?_
  refine W_seq ?_
  refine W_blk ?_
  refine wsr ?_
  refine wp rfl hC (oc_move hC (.tmp rfl) rfl rfl) ?_
  refine wp rfl hC (ox_cmp hC rfl (.tmp rfl) .cint (r := false) (by simp only [cmpI]; exact decide_eq_false (by omega)) rfl rfl) ?_
  refine wp rfl hC (oc_assign hC (.tmp rfl) rfl rfl) ?_
  refine WL_nil ?_
  refine W_cond rfl (by decide) (fun hc => by cases hc) (fun _ => ?_)
  refine W_seq ?_
  refine W_drawD hC ?_
  refine WD_cons (.plain rfl (oc_move hC (.tmp rfl) rfl rfl)) ?_
  refine WD_cons (.plain rfl (oc_move hC (.tmp rfl) rfl rfl)) ?_
  refine WD_cons (.plain rfl (ox_cutS (u' := .vs (s.drop (m + 4)).length (I .u8 (s.drop (m + 4)))) hC (.tmp rfl) (.yes (n := (m + 4)) (.tmp rfl) (by first | rfl | omega | (simp; omega))) .no idx_25 (by first | exact .row rfl (Nat.mul_one _) | exact .sl rfl | exact .vs (by first | omega | (simp <;> fail) | (simp; omega)) | exact .nils) (by first | omega | (simp <;> fail) | (simp; omega)) (by first | omega | (simp <;> fail) | (simp; omega)) (by rw [cut_vsI]; exact cut_rest hns) rfl rfl)) ?_
  refine WD_cons (.plain rfl (oc_callG (τ := fun k => bif Nat.beq k 0 then 1 else k) (N' := 2) hC .func (.cons (.tmp rfl) .nil) (.v1 (by first | exact .free (by first | exact inSL_I _ | simp) | exact .row rfl rfl (by first | exact inSL_I _ | simp) | exact .nils | exact .sl1 rfl (by first | exact cut_I | rfl) (by first | exact inSL_I _ | simp)) .end) (new_c _ (s.drop (m + 4)) rfl (by rw [List.length_drop]; omega)) glob_nil mr_nil (mr_cons (by first | exact ren_blkI | exact ren_rowI | exact Blk.ren_free (by simp) _ | rfl) rfl mr_nil) rfl rd_nil rfl rfl rfl rfl (by first | exact .inl rfl | exact .inr ⟨by simp, (nv_cons (by first | exact novsL_I _ | simp) nv_nil)⟩) rfl (dst_ok rfl rfl) (fun t => setE_cons _ _ _ _))) ?_
  refine WD_cons (.plain rfl (oc_callG (τ := fun k => bif Nat.beq k 0 then 1 else k) (N' := 2) hC .func (.cons (.tmp rfl) (.cons .cint .nil)) (.own (by first | rfl | simp) (.v1 (.free (by first | exact inSL_I _ | simp)) .end)) (fixr_u (s.drop (m + 4)) [] 0 0 hbd (by omega) (s.drop (m + 4)) 4 hfx) glob_nil (mr_cons (by first | exact ren_blkI | exact ren_rowI | exact Blk.ren_free (by simp) _ | rfl) rfl mr_nil) (mr_cons (by first | exact ren_blkI | exact ren_rowI | exact Blk.ren_free (by simp) _ | rfl) rfl mr_nil) rfl (rd_cons rfl rd_nil) rfl rfl rfl rfl (by first | exact .inl rfl | exact .inr ⟨by simp, (nv_cons (by first | exact novsL_I _ | simp) nv_nil)⟩) rfl (dst_ok rfl rfl) (fun t => setE_cons _ _ _ _))) ?_
  refine WD_cons (.plain rfl (oc_move hC (.tmp rfl) rfl rfl)) ?_
  refine WD_cons (.plain rfl (oc_move hC (.tmp rfl) rfl rfl)) ?_
  refine WD_cons (.plain rfl (ox_cutS (u' := .vs (s.take (m + 4)).length (I .u8 (s.take (m + 4)))) hC (.tmp rfl) .no (.yes (n := (m + 4)) (.tmp rfl) (by first | rfl | omega | (simp; omega))) idx_25 (by first | exact .row rfl (Nat.mul_one _) | exact .sl rfl | exact .vs (by first | omega | (simp <;> fail) | (simp; omega)) | exact .nils) (by first | omega | (simp <;> fail) | (simp; omega)) (by first | omega | (simp <;> fail) | (simp; omega)) (by rw [cut_vsI]; exact cut_pre hns (by omega)) rfl rfl)) ?_
  refine WD_cons (.plain rfl (ox_lit hC (.cons (.tmp rfl) .nil) Tryd.underlying78 cells_25 zero_25 rfl (by decide) rfl rfl (by first | rfl | simp) rfl rfl)) ?_
  refine WD_cons (.plain rfl (oc_call hC (.cons (.tmp rfl) .nil) (.vs (.free (inSL_I _) (.same trivial)) (.same trivial)) (sumof_c (s.take (m + 4)).length (s.take (m + 4)) rfl hbt (by rw [List.length_take]; omega)) (glob_cons rfl rfl (by first | exact inSL_I _ | simp) glob_nil) (by first | exact inSL_I _ | simp) (by first | exact .inl rfl | exact .inr (by simp)) rfl rfl)) ?_
  refine WD_cons (.plain rfl (oc_conv hC (.tmp rfl) rfl Tryd.underlying55 (r := ((crcS (s.take (m + 4)) : Nat) : Int)) (u64_conv (by omega)) rfl rfl)) ?_
  refine WD_cons (.plain rfl (ox_cmp hC rfl (.tmp rfl) (.tmp rfl) (r := false) (by rw [hs]; simp [cmpI]) rfl rfl)) ?_
  refine WD_cons (.plain rfl (oc_assign hC (.tmp rfl) rfl rfl)) ?_
  refine WD_nil (by kernel_rfl) ?_
  refine W_cond rfl (by decide) (fun hc => by cases hc) (fun _ => ?_)
  refine wsr ?_
  refine wp rfl hC (oc_move hC (.tmp rfl) rfl rfl) ?_
  refine wp rfl hC (ox_cmp hC rfl (.tmp rfl) .cint (r := false) (by simp only [cmpI]; exact decide_eq_false (by omega)) rfl rfl) ?_
  refine wp rfl hC (oc_move hC (.tmp rfl) rfl rfl) ?_
  refine WL_cons hC.fn (.yes rfl rfl (by decide) rfl (oc_move hC (.tmp rfl) rfl rfl)) ?_
  refine WL_cons hC.fn (.yes rfl rfl (by decide) rfl (ox_cutS (u' := .vs (s.take 4).length (I .u8 (s.take 4))) hC (.tmp rfl) .no (.yes (n := 4) .cint (by first | rfl | omega | (simp; omega))) idx_25 (by first | exact .row rfl (Nat.mul_one _) | exact .sl rfl | exact .vs (by first | omega | (simp <;> fail) | (simp; omega)) | exact .nils) (by first | omega | (simp <;> fail) | (simp; omega)) (by first | omega | (simp <;> fail) | (simp; omega)) (by rw [cut_vsI]; exact cut_pre hns (by omega)) rfl rfl)) ?_
  refine WL_cons hC.fn (.yes rfl rfl (by decide) rfl (ox_b2s (l := (s.take 4)) hC (.tmp rfl) (by first | exact .row rfl | exact .vs | exact .sl rfl | exact .nils) (take_allI rfl) rfl Tryd.underlying25 Tryd.underlying5 Tryd.underlying9 rfl rfl)) ?_
  refine WL_cons hC.fn (.yes rfl rfl (by decide) rfl (ox_eqs hC (.inr rfl) (.tmp rfl) .cstr (r := false) (by rw [hmg]; decide) rfl rfl)) ?_
  refine wp rfl hC (ox_pick hC (.tmp rfl) .cbool (.tmp rfl) (by first | exact pick_t | exact pick_f | rfl) rfl rfl) ?_
  refine wp rfl hC (oc_assign hC (.tmp rfl) rfl rfl) ?_
  refine WL_nil ?_
  refine W_cond rfl (by decide) (fun hc => by cases hc) (fun _ => ?_)
  refine W_skip ?_
  refine wsr ?_
  refine wp rfl hC (ox_alloc (cs' := recX 0 (List.replicate 16 0) 0 0 .nils) hC zero_39 (by unfold recX; rfl) rfl rfl) ?_
  refine WL_nil ?_
  refine wsr ?_
  refine wp rfl hC (oc_move hC (.tmp rfl) rfl rfl) ?_
  refine wp rfl hC (oc_move hC (.tmp rfl) rfl rfl) ?_
  refine wp rfl hC (ox_cutS (u' := .vs ((s.drop 4).take m).length (I .u8 ((s.drop 4).take m))) hC (.tmp rfl) (.yes (n := 4) .cint (by first | rfl | omega | (simp; omega))) (.yes (n := (m + 4)) (.tmp rfl) (by first | rfl | omega | (simp; omega))) idx_25 (by first | exact .row rfl (Nat.mul_one _) | exact .sl rfl | exact .vs (by first | omega | (simp <;> fail) | (simp; omega)) | exact .nils) (by first | omega | (simp <;> fail) | (simp; omega)) (by first | omega | (simp <;> fail) | (simp; omega)) (by rw [cut_vsI, hcl]; simp) rfl rfl) ?_
  refine wp rfl hC (oc_callG (τ := fun k => bif Nat.beq k 0 then 3 else k) (N' := 4) hC .func (.cons (.tmp rfl) .nil) (.v1 (by first | exact .free (by first | exact inSL_I _ | simp) | exact .row rfl rfl (by first | exact inSL_I _ | simp) | exact .nils | exact .sl1 rfl (by first | exact cut_I | rfl) (by first | exact inSL_I _ | simp)) .end) (new_c _ ((s.drop 4).take m) rfl (by omega)) glob_nil mr_nil (mr_cons (by first | exact ren_blkI | exact ren_rowI | exact Blk.ren_free (by simp) _ | rfl) rfl mr_nil) rfl rd_nil rfl rfl rfl rfl (by first | exact .inl rfl | exact .inr ⟨by simp, (nv_cons (by first | exact novsL_I _ | simp) nv_nil)⟩) rfl (dst_ok rfl rfl) (fun t => setE_cons _ _ _ _)) ?_
  refine wp rfl hC (oc_assign hC (.tmp rfl) rfl rfl) ?_
  refine WL_nil ?_
  refine wsr ?_
  refine wp rfl hC (oc_move hC (.tmp rfl) rfl rfl) ?_
  refine wp rfl hC (oc_callG (τ := fun k => bif Nat.beq k 0 then 3 else k) (N' := 4) hC .func (.cons (.tmp rfl) (.cons .cint .nil)) (.own (by first | rfl | simp) (.v1 (.free (by first | exact inSL_I _ | simp)) .end)) (fixr_u ((s.drop 4).take m) (C 0) 0 (E 0) bc (by omega) x0 1 h0) glob_nil (mr_cons (by first | exact ren_blkI | exact ren_rowI | exact Blk.ren_free (by simp) _ | rfl) rfl mr_nil) (mr_cons (by first | exact ren_blkI | exact ren_rowI | exact Blk.ren_free (by simp) _ | rfl) rfl mr_nil) rfl (rd_cons rfl rd_nil) rfl rfl rfl rfl (by first | exact .inl rfl | exact .inr ⟨by simp, (nv_cons (by first | exact novsL_I _ | simp) nv_nil)⟩) rfl (dst_ok rfl rfl) (fun t => setE_cons _ _ _ _)) ?_
  refine wp rfl hC (oc_conv hC (.tmp rfl) rfl Tryd.underlying3 (r := (vle x0)) (i64_conv (by omega)) rfl rfl) ?_
  refine wp rfl hC (oc_field hC (.tmp rfl) fld_39_0 (by decide) (by first | exact .p (Nat.zero_add _) | exact .p rfl | exact .rp (by decide)) rfl rfl) ?_
  refine wp rfl hC (ox_store (bk' := .blk 39 (recX (vle x0) (List.replicate 16 0) 0 0 .nils)) hC (.tmp rfl) (.tmp rfl) rfl shp_3 (by first | rfl | exact flat_agI) (by first | exact cells1 rfl | (rw [cells_ag, length_I]; omega) | rfl | (simp <;> fail) | (simp; omega)) (by show _ ≤ (recX _ _ _ _ _).length; rw [length_recX rfl]; decide) put_rk (by first | exact .here | exact .s1 rfl | exact .s2 rfl rfl | exact .s3 rfl rfl rfl | exact .s4 rfl rfl rfl rfl | exact .s5 rfl rfl rfl rfl rfl | exact .s6 rfl rfl rfl rfl rfl rfl | exact .s7 rfl rfl rfl rfl rfl rfl rfl | exact .s8 rfl rfl rfl rfl rfl rfl rfl rfl) rfl) ?_
  refine WL_nil ?_
  refine W_seq ?_
  refine wsr ?_
  refine wp rfl hC (oc_move hC .cint rfl rfl) ?_
  refine WL_nil ?_
  refine W_blk ?_
  refine W_loopW (fun (ζ : Nat) => ⟨4, [(2, .p 0 0), (3, .i .i64 0), (5, .p 2 0), (6, .p 3 0), (48, .i .i64 ζ), (1000000, .rp (I .u32 nibT))], [(0, .blk 39 (recX 0 (List.replicate 16 0) 0 0 .nils)), (2, .blk 39 (recX (vle x0) (idP Y ζ) 0 0 .nils)), (3, .blk 70 [.vs (C ζ).length (I .u8 (C ζ)), .i .i64 (E ζ)])]⟩) (fun ζ => ζ ≤ 16) (fun ζ => 16 - ζ) (0) (Nat.zero_le _) (weak (fun k => k) (.cons rfl (by first | rfl | simp) (by show _ < _; decide) (.cons rfl (by first | rfl | exact congrArg (AV.i _) (by omega) | exact congrArg (AV.i _) (by simp; omega)) trivial (.cons rfl (by first | rfl | simp) (by show _ < _; decide) (.cons rfl (by first | rfl | simp) (by show _ < _; decide) (.cons rfl rfl trivial (.cons rfl (by first | exact ren_agI | exact ren_vsI | exact ren_free _ _ (by first | exact inSL_I _ | simp)) (by first | exact inSL_I _ | simp) .nil)))))) (.cons rfl ren_rec0 rfl (by first | exact inSL_I _ | simp) (.cons rfl (ren_rec0.trans (by rw [idP_zero])) rfl (by first | exact inSL_I _ | simp) (.cons rfl (Blk.ren_free (by simp) _) rfl (by first | exact inSL_I _ | simp) .nil))) rfl rfl rfl) ?_
  intro i hR
  replace hR : i ≤ 16 := hR
  first | show W _ _ _ ⟨4, [(2, .p 0 0), (3, .i .i64 0), (5, .p 2 0), (6, .p 3 0), (48, .i .i64 i), (1000000, .rp (I .u32 nibT))], [(0, .blk 39 (recX 0 (List.replicate 16 0) 0 0 .nils)), (2, .blk 39 (recX (vle x0) (idP Y i) 0 0 .nils)), (3, .blk 70 [.vs (C i).length (I .u8 (C i)), .i .i64 (E i)])]⟩ | skip
  have hii := length_idP Y hR
  refine wsr ?_
  refine wp rfl hC (ox_cmp hC rfl (.tmp rfl) .cint rfl rfl rfl) ?_
  refine WL_nil ?_
  refine W_seq ?_
  refine W_cond rfl (by decide) (fun hc => ?_) (fun hc => ?_)
  ·
    replace hc := lss_t hc
    have hfi := hF i (by omega)
    have hbi := (hch i (by omega)).1
    have hli := (hch i (by omega)).2
    have hxi := hfi.val hbi
    refine W_skip ?_
    refine W_seq ?_
    refine W_blk ?_
    refine wsr ?_
    refine wp rfl hC (oc_move hC (.tmp rfl) rfl rfl) ?_
    refine wp rfl hC (oc_assign hC (.tmp rfl) rfl rfl) ?_
    refine WL_nil ?_
    refine W_region ?_
    refine wp rfl hC (oc_move hC (.tmp rfl) rfl rfl) ?_
    refine wp rfl hC (oc_move hC (.tmp rfl) rfl rfl) ?_
    refine wp rfl hC (oc_callG (τ := fun k => bif Nat.beq k 0 then 3 else k) (N' := 4) hC .func (.cons (.tmp rfl) (.cons .cint .nil)) (.own (by first | rfl | simp) (.v1 (.free (by first | exact inSL_I _ | simp)) .end)) (fixr_u (C i) (C (i + 1)) (E i) (E (i + 1)) hbi (by omega) (Y i) 1 hfi) glob_nil (mr_cons (by first | exact ren_blkI | exact ren_rowI | exact Blk.ren_free (by simp) _ | rfl) rfl mr_nil) (mr_cons (by first | exact ren_blkI | exact ren_rowI | exact Blk.ren_free (by simp) _ | rfl) rfl mr_nil) rfl (rd_cons rfl rd_nil) rfl rfl rfl rfl (by first | exact .inl rfl | exact .inr ⟨by simp, (nv_cons (by first | exact novsL_I _ | simp) nv_nil)⟩) rfl (dst_ok rfl rfl) (fun t => setE_cons _ _ _ _)) ?_
    refine wp rfl hC (oc_conv hC (.tmp rfl) rfl Tryd.underlying5 (r := (vle (Y i))) (u8_conv (by omega)) rfl rfl) ?_
    refine wp rfl hC (oc_field hC (.tmp rfl) fld_39_1 (by decide) (by first | exact .p (Nat.zero_add _) | exact .p rfl | exact .rp (by decide)) rfl rfl) ?_
    refine wp rfl hC (ox_indexA hC (j := i) (.tmp rfl) (.tmp rfl) idx_37 (by first | rfl | omega | (simp; omega)) (by omega) (by first | exact Nat.mul_one _ | rfl) (by first | exact .p (Nat.zero_add _) | exact .p rfl | exact .rp (by first | omega | (simp <;> fail) | (simp; omega))) rfl rfl) ?_
    refine wp rfl hC (ox_store (bk' := .blk 39 (recX (vle x0) ((idP Y i).set i (vle (Y i))) 0 0 .nils)) hC (.tmp rfl) (.tmp rfl) rfl shp_5 (by first | rfl | exact flat_agI) (by first | exact cells1 rfl | (rw [cells_ag, length_I]; omega) | rfl | (simp <;> fail) | (simp; omega)) (by show _ ≤ (recX _ _ _ _ _).length; rw [length_recX hii]; omega) (put_rid hii (by omega)) (by first | exact .here | exact .s1 rfl | exact .s2 rfl rfl | exact .s3 rfl rfl rfl | exact .s4 rfl rfl rfl rfl | exact .s5 rfl rfl rfl rfl rfl | exact .s6 rfl rfl rfl rfl rfl rfl | exact .s7 rfl rfl rfl rfl rfl rfl rfl | exact .s8 rfl rfl rfl rfl rfl rfl rfl rfl) rfl) ?_
    refine WL_nil ?_
    refine W_region ?_
    refine wp rfl hC (oc_bin hC rfl (.tmp rfl) .cint (by first | exact i64_add (by omega) | rfl) rfl rfl) ?_
    refine wp rfl hC (oc_move hC (.tmp rfl) rfl rfl) ?_
    refine WL_nil ?_
    exact ⟨(i + 1), (by omega), (weak (fun k => k) (.cons rfl (by first | rfl | simp) (by show _ < _; decide) (.cons rfl (by first | rfl | exact congrArg (AV.i _) (by omega) | exact congrArg (AV.i _) (by simp; omega)) trivial (.cons rfl (by first | rfl | simp) (by show _ < _; decide) (.cons rfl (by first | rfl | simp) (by show _ < _; decide) (.cons rfl (by first | rfl | exact congrArg (AV.i _) (by omega) | exact congrArg (AV.i _) (by simp; omega)) trivial (.cons rfl (by first | exact ren_agI | exact ren_vsI | exact ren_free _ _ (by first | exact inSL_I _ | simp)) (by first | exact inSL_I _ | simp) .nil)))))) (.cons rfl ren_rec0 rfl (by first | exact inSL_I _ | simp) (.cons rfl (ren_rec0.trans (by rw [idP_set (by omega)])) rfl (by first | exact inSL_I _ | simp) (.cons rfl (Blk.ren_free (by simp) _) rfl (by first | exact inSL_I _ | simp) .nil))) rfl rfl rfl), (by omega)⟩
  ·
    replace hc := lss_f hc
    obtain rfl : i = 16 := by omega
    refine W_exit ?_
    refine wsr ?_
    refine wp rfl hC (oc_move hC (.tmp rfl) rfl rfl) ?_
    refine wp rfl hC (oc_callG (τ := fun k => bif Nat.beq k 0 then 3 else k) (N' := 4) hC .func (.cons (.tmp rfl) (.cons .cint .nil)) (.own (by first | rfl | simp) (.v1 (.free (by first | exact inSL_I _ | simp)) .end)) (num_u (C 16) c1 (E 16) e1 b16 (by omega) 63 v hv) glob_nil (mr_cons (by first | exact ren_blkI | exact ren_rowI | exact Blk.ren_free (by simp) _ | rfl) rfl mr_nil) (mr_cons (by first | exact ren_blkI | exact ren_rowI | exact Blk.ren_free (by simp) _ | rfl) rfl mr_nil) rfl (rd_cons rfl rd_nil) rfl rfl rfl rfl (by first | exact .inl rfl | exact .inr ⟨by simp, (nv_cons (by first | exact novsL_I _ | simp) nv_nil)⟩) rfl (dst_ok rfl rfl) (fun t => setE_cons _ _ _ _)) ?_
    refine wp rfl hC (oc_field hC (.tmp rfl) fld_39_2 (by decide) (by first | exact .p (Nat.zero_add _) | exact .p rfl | exact .rp (by decide)) rfl rfl) ?_
    refine wp rfl hC (ox_store (bk' := .blk 39 (recX (vle x0) (idP Y 16) v 0 .nils)) hC (.tmp rfl) (.tmp rfl) rfl shp_3 (by first | rfl | exact flat_agI) (by first | exact cells1 rfl | (rw [cells_ag, length_I]; omega) | rfl | (simp <;> fail) | (simp; omega)) (by show _ ≤ (recX _ _ _ _ _).length; rw [length_recX hi16]; decide) (put_rv hi16) (by first | exact .here | exact .s1 rfl | exact .s2 rfl rfl | exact .s3 rfl rfl rfl | exact .s4 rfl rfl rfl rfl | exact .s5 rfl rfl rfl rfl rfl | exact .s6 rfl rfl rfl rfl rfl rfl | exact .s7 rfl rfl rfl rfl rfl rfl rfl | exact .s8 rfl rfl rfl rfl rfl rfl rfl rfl) rfl) ?_
    refine WL_nil ?_
    refine wsr ?_
    refine wp rfl hC (oc_move hC (.tmp rfl) rfl rfl) ?_
    refine wp rfl hC (oc_callG (τ := fun k => bif Nat.beq k 0 then 3 else k) (N' := 4) hC .func (.cons (.tmp rfl) (.cons .cint .nil)) (.own (by first | rfl | simp) (.v1 (.free (by first | exact inSL_I _ | simp)) .end)) (num_u c1 c2 e1 e2 b1 (by omega) 1099511627775 n hn) glob_nil (mr_cons (by first | exact ren_blkI | exact ren_rowI | exact Blk.ren_free (by simp) _ | rfl) rfl mr_nil) (mr_cons (by first | exact ren_blkI | exact ren_rowI | exact Blk.ren_free (by simp) _ | rfl) rfl mr_nil) rfl (rd_cons rfl rd_nil) rfl rfl rfl rfl (by first | exact .inl rfl | exact .inr ⟨by simp, (nv_cons (by first | exact novsL_I _ | simp) nv_nil)⟩) rfl (dst_ok rfl rfl) (fun t => setE_cons _ _ _ _)) ?_
    refine wp rfl hC (oc_field hC (.tmp rfl) fld_39_3 (by decide) (by first | exact .p (Nat.zero_add _) | exact .p rfl | exact .rp (by decide)) rfl rfl) ?_
    refine wp rfl hC (ox_store (bk' := .blk 39 (recX (vle x0) (idP Y 16) v n .nils)) hC (.tmp rfl) (.tmp rfl) rfl shp_3 (by first | rfl | exact flat_agI) (by first | exact cells1 rfl | (rw [cells_ag, length_I]; omega) | rfl | (simp <;> fail) | (simp; omega)) (by show _ ≤ (recX _ _ _ _ _).length; rw [length_recX hi16]; decide) (put_rn hi16) (by first | exact .here | exact .s1 rfl | exact .s2 rfl rfl | exact .s3 rfl rfl rfl | exact .s4 rfl rfl rfl rfl | exact .s5 rfl rfl rfl rfl rfl | exact .s6 rfl rfl rfl rfl rfl rfl | exact .s7 rfl rfl rfl rfl rfl rfl rfl | exact .s8 rfl rfl rfl rfl rfl rfl rfl rfl) rfl) ?_
    refine WL_nil ?_
    refine wsr ?_
    refine wp rfl hC (oc_move hC (.tmp rfl) rfl rfl) ?_
    refine wp rfl hC (oc_callG (τ := fun k => bif Nat.beq k 0 then 3 else k) (N' := 4) hC .func (.cons (.tmp rfl) (.cons .cint .nil)) (.own (by first | rfl | simp) (.v1 (.free (by first | exact inSL_I _ | simp)) .end)) (bytesu_c c2 c3 e2 e3 b2 (by omega) 262144 kk hk he c3.length hj (Nat.le_refl _)) glob_nil (mr_cons (by first | exact ren_blkI | exact ren_rowI | exact Blk.ren_free (by simp) _ | rfl) rfl mr_nil) (mr_cons (by first | exact ren_blkI | exact ren_rowI | exact Blk.ren_free (by simp) _ | rfl) rfl mr_nil) ren_vsI (rd_cons rfl rd_nil) rfl rfl rfl rfl (by first | exact .inl rfl | exact .inr ⟨by simp, (nv_cons (by first | exact novsL_I _ | simp) nv_nil)⟩) rfl (dst_ok rfl rfl) (fun t => setE_cons _ _ _ _)) ?_
    rw [show c3.length - c3.length = (c3.drop c3.length).length by simp, List.take_length]
    refine wp rfl hC (oc_field hC (.tmp rfl) fld_39_4 (by decide) (by first | exact .p (Nat.zero_add _) | exact .p rfl | exact .rp (by decide)) rfl rfl) ?_
    refine wp rfl hC (ox_store (bk' := .blk 39 (recX (vle x0) (idP Y 16) v n (bodyV c3))) hC (.tmp rfl) (.tmp rfl) rfl shp_25 (by first | rfl | exact flat_agI) rfl (by show _ ≤ (recX _ _ _ _ _).length; rw [length_recX hi16]; decide) (put_rz hi16) (by first | exact .here | exact .s1 rfl | exact .s2 rfl rfl | exact .s3 rfl rfl rfl | exact .s4 rfl rfl rfl rfl | exact .s5 rfl rfl rfl rfl rfl | exact .s6 rfl rfl rfl rfl rfl rfl | exact .s7 rfl rfl rfl rfl rfl rfl rfl | exact .s8 rfl rfl rfl rfl rfl rfl rfl rfl) rfl) ?_
    refine WL_nil ?_
    refine wsr ?_
    refine wp rfl hC (oc_move hC (.tmp rfl) rfl rfl) ?_
    refine wp rfl hC (oc_callG (τ := fun k => bif Nat.beq k 0 then 3 else k) (N' := 4) hC .func (.cons (.tmp rfl) .nil) (.own (by first | rfl | simp) .end) (end_c (c3.drop c3.length).length (c3.drop c3.length) e3 rfl (fun x hx => b3 x (List.mem_of_mem_drop hx)) (by rw [List.length_drop]; omega) 0 (.inr (.inl ⟨he, by rw [List.length_drop]; omega, rfl⟩))) glob_nil (mr_cons (by first | exact ren_blkI | exact ren_rowI | exact Blk.ren_free (by simp) _ | rfl) rfl mr_nil) (mr_cons (by first | exact ren_blkI | exact ren_rowI | exact Blk.ren_free (by simp) _ | rfl) rfl mr_nil) rfl (rd_cons rfl rd_nil) rfl rfl rfl rfl (by first | exact .inl rfl | exact .inr ⟨by simp, (nv_cons (by first | exact novsL_I _ | simp) nv_nil)⟩) rfl (dst_ok rfl rfl) (fun t => setE_cons _ _ _ _)) ?_
    refine wp rfl hC (oc_assign hC (.tmp rfl) rfl rfl) ?_
    refine WL_nil ?_
    refine W_seq ?_
    refine wsr ?_
    refine wp rfl hC (oc_move hC (.tmp rfl) rfl rfl) ?_
    refine wp rfl hC (ox_cmp hC rfl (.tmp rfl) .cint (r := true) rfl rfl rfl) ?_
    refine wp rfl hC (oc_move hC (.tmp rfl) rfl rfl) ?_
    refine WL_cons hC.fn (.yes rfl rfl (by decide) rfl (oc_load hC (.tmp rfl) (by first | exact .p rfl | exact .rp) shp_39 (by exact (unit_rall hi16)) rfl rfl)) ?_
    refine WL_cons hC.fn (.yes rfl rfl (by decide) rfl (oc_call hC (.cons (.tmp rfl) .nil) (.cons1 (.free (by first | exact inSL_I _ | simp)) (.same (by first | exact inSL_I _ | simp))) (right_t (vle x0) (idP Y 16) v n c3 hi16 (B8_idP hF hch) b3 hQ) glob_nil (by first | exact inSL_I _ | simp) (by first | exact .inl rfl | exact .inr (by simp)) rfl rfl)) ?_
    refine WL_cons hC.fn (.yes rfl rfl (by decide) rfl (oc_not hC (.tmp rfl) rfl rfl)) ?_
    refine wp rfl hC (ox_pick hC (.tmp rfl) (.tmp rfl) .cbool (by first | exact pick_t | exact pick_f | rfl) rfl rfl) ?_
    refine WL_nil ?_
    refine W_cond rfl (by decide) (fun hc => by cases hc) (fun _ => ?_)
    refine W_skip ?_
    refine W_seq ?_
    refine wsr ?_
    refine wp rfl hC (oc_move hC (.tmp rfl) rfl rfl) ?_
    refine wp rfl hC (ox_cmp hC rfl (.tmp rfl) .cint (r := false) rfl rfl rfl) ?_
    refine WL_nil ?_
    refine W_cond rfl (by decide) (fun hc => by cases hc) (fun _ => ?_)
    refine W_skip ?_
    refine wsr ?_
    refine wp rfl hC (oc_load hC (.tmp rfl) (by first | exact .p rfl | exact .rp) shp_39 (by exact (unit_rall hi16)) rfl rfl) ?_
    refine wp rfl hC (ox_store (bk' := .blk 39 (recX (vle x0) (idP Y 16) v n (bodyV c3))) hC (.tmp rfl) (.tmp rfl) rfl shp_39 (flat_recX rfl) (by rw [cells_ag, length_recX hi16]) (by show _ ≤ (recX _ _ _ _ _).length; rw [length_recX rfl]; decide) (put_rall rfl hi16) (by first | exact .here | exact .s1 rfl | exact .s2 rfl rfl | exact .s3 rfl rfl rfl | exact .s4 rfl rfl rfl rfl | exact .s5 rfl rfl rfl rfl rfl | exact .s6 rfl rfl rfl rfl rfl rfl | exact .s7 rfl rfl rfl rfl rfl rfl rfl | exact .s8 rfl rfl rfl rfl rfl rfl rfl rfl) rfl) ?_
    refine wp rfl hC (oc_assign hC .cint rfl rfl) ?_
    refine WL_nil ?_
    refine W_ret ?_
    exact fin0 (.cons (.cell rfl (.p rfl) shp_39 (unit_rall (by first | rfl | exact length_idP _ (Nat.le_refl _)))) (.cons (.tmp rfl) .nil)) rfl (by simp)
end Go.Proofs.YtlcgojhopdikbaaDoor
